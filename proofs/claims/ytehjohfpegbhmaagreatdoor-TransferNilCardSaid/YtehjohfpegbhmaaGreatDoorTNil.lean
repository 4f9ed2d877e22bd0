/- What is proved: for every input TransferNil returns true, and its argument reads behind the call as it read before; the variables that its row lists are tied to the program's text. -/
import Derived.Test.YtehjohfpegbhmaaGreatDoorRows
import Derived.Test.YtehjohfpegbhmaaGreatDoorCards
import Derived.Test.YtehjohfpegbhmaaGreatDoorTie
import Derived.Test.YtehjohfpegbhmaaGreatDoorNil1
import Derived.Test.YtehjohfpegbhmaaGreatDoorFacts
import Derived.WalkKit
import Derived.ProofKit
import Derived.OpenShut
import Derived.ShutString
import Derived.ChangeOld
import Derived.Below
import Derived.SizedLaws
import Derived.LaidMore
import Derived.Lay
import Derived.SevenTiedAt
import Derived.Stop.Joined
namespace Go.Proofs.YtehjohfpegbhmaaGreatDoor.nilDone
open Go.ChangeShapes Go.WideShapes Go.ChangeAt Go.RowKit
open Go.ChangeMaps (open_string shut_string)
open Go.SL
set_option linter.unusedVariables false
set_option maxRecDepth 100000
set_option maxHeartbeats 4000000

theorem own : ownKnob Tryz.prog.godebug = none := by kernel_rfl
theorem laidOut : laidOutB Tryz.prog = true := fact1

theorem laid_met (os : Os) (args : Array Value) : laidMetH Tryz.prog Rows.transferNilRow.laid ((World.laidAll Tryz.prog os Rows.transferNilRow.laid).forCall (fun _ _ => 0) ⟨#[], args, []⟩).memory := by
  rw [MakeChecks.laidMetH_plain _ _ _ (by kernel_rfl)]
  exact laidMet_laidAll _ (by kernel_rfl) (by kernel_rfl)

theorem lifted (os : Os) (started : os.Started) (H : Type) (enc : TypeId × Value → H) :
    ReturnsInHanded {} Tryz.checked os 3 .any (fun w args => (Rows.transferNilSpec.pre enc Tryz.prog Tryz.f3 Rows.transferNilRow.domain false w args ∧ laidMetH Tryz.prog Rows.transferNilRow.laid w) ∧ sizedMet enc Tryz.prog Tryz.f3 (OpenSpec.ofChange Rows.transferNilSpec) false w args)
      (Rows.transferNilSpec.post enc Tryz.prog Tryz.f3 false true false false) := by
  refine returnsInHanded_of_change_and (C := Tryz.checked) (X := fun w _ => laidMetH Tryz.prog Rows.transferNilRow.laid w) (fun _ _ _ hh h => h.of_heap hh) own started (by kernel_rfl) Tryz.func3
    (ChangeSpec.witness_shaped (enc := enc) (C := Tryz.checked) (os := os) (X := fun w _ => laidMetH Tryz.prog Rows.transferNilRow.laid w) false (World.laidAll Tryz.prog os Rows.transferNilRow.laid) #[.agg (#[.int .i64 0] ++ Array.replicate 32 (.int .u8 0) ++ #[.int .i64 0, .string ByteArray.empty])] 8 (World.laidAll_os _ _ _)
      (World.shaped_of_ZipB (by kernel_rfl) (by kernel_rfl)) (by kernel_rfl) (by kernel_rfl) (by kernel_rfl)
      (laid_met os _)) ?_
  intro W base args ds gs before hval0 hW hcnd hsz hL _
  have hval : ∀ (j : Nat) t v, Tryz.f3.params[j]? = some t → args[j]? = some v → Value.okWide Tryz.prog W .any base t v := hval0
  have hW' := hW
  obtain ⟨p, q, hA0, hV, rfl, hfz, hnd⟩ := hW
  have hA : DataW.TrodAll enc Tryz.prog W 0 (fun _ => true) true Tryz.f3.params.toList args.toList ds p := hA0
  rw [Tryz.params3] at hA hval hsz
  obtain ⟨v0, vs0, d0, ds0, p0, q0, hargs, rfl, rfl, h0, r0⟩ := trodAll_cons hA
  obtain ⟨rfl, rfl, rfl⟩ := trodAll_nil r0
  obtain rfl : args = #[v0] := by cases args; simp_all
  obtain ⟨rfl, rfl⟩ := trodVars_none hV
  have wt0 : ∀ k ∈ DataW.weights Tryz.prog 25 d0, k ≤ reachBytes := fun k hk => by simpa using List.all_eq_true.1 hsz _ (DataW.weights_mem_each (j := 0) rfl rfl k hk)
  have k0 := h0
  have lt0 : ∀ x ∈ p0, x.block < W.heap.size := by obtain ⟨m, hm⟩ := k0; exact DataW.trod_lt m _ _ _ hm
  obtain ⟨s0, rfl, rd0⟩ := arg_agg (g := 5) (by kernel_rfl) (hval 0 25 v0 rfl rfl) h0 (by kernel_rfl) wt0
  obtain ⟨v, i, f, x, rfl, hx⟩ := rd_rcmd rd0
  clear hA0 hval0 hL
  refine (nil_walk v i f x hx W).mono fun e W' ⟨he, bel0⟩ => ?_
  have bel := bel0.below
  subst he
  exact ⟨_, rfl, _, _, _, [], _, [], hW', trodAll_mk1 (shut_bool Tryz.underlying4 _), (trodAll_cons_mk (Below.trod laidOut (by kernel_rfl) (of_decide_eq_true (by kernel_rfl)) k0 bel lt0) trodAll_mk0), rfl, bel.frame _, fun h => by cases h⟩

theorem over : Rows.transferNilRow.holds Tryz.pinned (OpenSpec.ofChange Rows.transferNilSpec) :=
  OpenClaim.holds_of_wide 3 Tryz.f3 rfl rfl rfl rfl rfl rfl rfl ⟨rfl, rfl, rfl, rfl, rfl⟩ rfl rfl rfl rfl rfl (by kernel_rfl) Tryz.func3 facts
    (of_decide_eq_true (by kernel_rfl)) (by unfold Func.isWrapper; first | (rw [if_pos (by decide +kernel)]; kernel_rfl) | (rw [if_neg (by decide +kernel)]; exact ⟨rfl, rfl⟩))
    (fun os started H enc _ => lifted os started H enc)

theorem byText : Rows.transferNilRow.wfByText (OpenSpec.ofChange Rows.transferNilSpec) = true := by kernel_rfl
theorem main : Tryz.prog.mainIs = some (true, "4f917627af35485f9f63a70ec2a17b5769fdf2a34fe88cb855acfc55680186fc".toList) := by kernel_rfl
theorem looksAt : true = Tryz.prog.looks [] := by kernel_rfl
theorem goesBy : false = Rows.transferNilRow.goesBy Tryz.prog := by kernel_rfl
theorem standIn : Tryz.prog.wantsStandIn 25 = false := by kernel_rfl
theorem named : Tryz.prog.funcNamed "bulletin/bulletinlaw32.TransferNil" = some 3 := by kernel_rfl

/-- the given statement -/
theorem proved : Rows.TransferNilCardSaid :=
  Claim7.holds_tied_plain_at .later [] [.data, .data, .data, .data, .sentinel, .sentinel, .pinned, .pinned] true (true, "4f917627af35485f9f63a70ec2a17b5769fdf2a34fe88cb855acfc55680186fc") true over (fun _ h => by cases h) byText (fun _ h => by cases h) transferNil_row_tie rfl ⟨rfl, rfl⟩ main rfl
    (fun f fn hf hfn => by
      obtain rfl : f = 3 := Option.some.inj (named.symm.trans hf) |>.symm
      obtain rfl : fn = Tryz.f3 := (Option.some.inj (Tryz.func3.symm.trans hfn)).symm
      exact ⟨looksAt, fun j t ht => by
        rw [Tryz.params3] at ht
        have hm : t ∈ [25] := by simpa using Array.mem_of_getElem? ht
        obtain rfl : t = 25 := by simpa using hm
        exact standIn⟩)
    goesBy
#print axioms proved
end Go.Proofs.YtehjohfpegbhmaaGreatDoor.nilDone
