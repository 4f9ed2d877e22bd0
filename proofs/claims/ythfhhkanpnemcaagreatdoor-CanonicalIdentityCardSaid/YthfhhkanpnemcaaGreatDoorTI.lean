/- What is proved: for every input CanonicalIdentity returns true, and its arguments read behind the call as they read before; the variables that its row lists are tied to the program's text. -/
import Derived.Test.YthfhhkanpnemcaaGreatDoorRows
import Derived.Test.YthfhhkanpnemcaaGreatDoorCards
import Derived.Test.YthfhhkanpnemcaaGreatDoorTie
import Derived.Test.YthfhhkanpnemcaaGreatDoorME
import Derived.Test.YthfhhkanpnemcaaGreatDoorMF
import Derived.Test.YthfhhkanpnemcaaGreatDoorTF
import Derived.WalkKit
import Derived.ProofKit
import Derived.OpenShut
import Derived.ShutString
import Derived.ChangeOld
import Derived.Below
import Derived.SizedLaws
import Derived.LaidMore
import Derived.Lay
import Derived.Deep.DeepHandedRow
import Derived.SevenTiedAt
import Derived.Stop.Joined
namespace Go.Proofs.YthfhhkanpnemcaaGreatDoor.idDone
open Go.ChangeShapes Go.WideShapes Go.ChangeAt Go.RowKit
open Go.ChangeMaps (open_string shut_string)
open Go.SL
set_option linter.unusedVariables false
set_option maxRecDepth 100000
set_option maxHeartbeats 4000000

theorem own : ownKnob Tryz.prog.godebug = none := by kernel_rfl
theorem laidOut : laidOutB Tryz.prog = true := fact1

theorem laid_met (os : Os) (args : Array Value) : laidMetH Tryz.prog Rows.canonicalIdentityRow.laid ((World.laidAll Tryz.prog os Rows.canonicalIdentityRow.laid).forCall (fun _ _ => 0) ⟨#[], args, []⟩).memory := by
  rw [MakeChecks.laidMetH_plain _ _ _ (by kernel_rfl)]
  exact laidMet_laidAll _ (by kernel_rfl) (by kernel_rfl)

abbrev zeroC : Value := .agg (#[.string ByteArray.empty] ++ Array.replicate 16 (.int .u8 0) ++ #[.int .i64 0, .slice none 0 0, .string ByteArray.empty, .slice none 0 0] ++ Array.replicate 32 (.int .u8 0) ++ #[.string ByteArray.empty, .string ByteArray.empty, .int .i64 0, .int .i64 0] ++ Array.replicate 16 (.int .u8 0) ++ #[.int .i64 0, .string ByteArray.empty])

theorem lifted (os : Os) (started : os.Started) (H : Type) (enc : TypeId × Value → H) (F : Stop.Interp) :
    ReturnsInHanded {} Tryz.checked os 3 .any ((OpenSpec.ofChange Rows.canonicalIdentitySpec).preRow enc Tryz.prog Tryz.f3 Rows.canonicalIdentityRow.domain false Rows.canonicalIdentityRow.laid) (((OpenSpec.ofChange Rows.canonicalIdentitySpec).at F).post enc Tryz.prog Tryz.f3 false true false false) := by
  refine returnsInHanded_of_row (C := Tryz.checked) (s := OpenSpec.ofChange Rows.canonicalIdentitySpec) own started (by kernel_rfl) Tryz.func3 ?_ ?_
  · obtain ⟨w, tape, i, h1, h2, h3, h4, ⟨⟨hp, hl⟩, hz⟩, h6⟩ := (ChangeSpec.witness_shaped (enc := enc) (C := Tryz.checked) (os := os) (f := 3) (fn := Tryz.f3) (s := Rows.canonicalIdentitySpec) (conds := Rows.canonicalIdentityRow.domain) (apart := false) (X := fun w _ => laidMetH Tryz.prog Rows.canonicalIdentityRow.laid w) false (World.laidAll Tryz.prog os Rows.canonicalIdentityRow.laid) #[zeroC, zeroC] 8 (World.laidAll_os _ _ _)
      (World.shaped_of_ZipB (by kernel_rfl) (by kernel_rfl)) (by kernel_rfl) (by kernel_rfl) (by kernel_rfl)
      (laid_met os _))
    exact ⟨w, tape, i, h1, h2, h3, h4, ⟨⟨by unfold OpenSpec.pre; exact hp, hl⟩, sizedMet_of_bare hz⟩, h6⟩
  intro W base args ds gs before hval0 hW hcnd hcond hsz hL hS _
  have hval : ∀ (j : Nat) t v, Tryz.f3.params[j]? = some t → args[j]? = some v → Value.okWide Tryz.prog W .any base t v := hval0
  have hW' := hW
  obtain ⟨p, q, hA0, hV, rfl, hfz, hnd⟩ := hW
  have hA : DataW.TrodAll enc Tryz.prog W 0 (fun _ => true) true Tryz.f3.params.toList args.toList ds p := hA0
  rw [Tryz.params3] at hA hval hsz
  obtain ⟨v0, vs0, d0, ds0, p0, q0, hargs, rfl, rfl, h0, r0⟩ := trodAll_cons hA
  obtain ⟨v1, vs1, d1, ds1, p1, q1, rfl, rfl, rfl, h1, r1⟩ := trodAll_cons r0
  obtain ⟨rfl, rfl, rfl⟩ := trodAll_nil r1
  obtain rfl : args = #[v0, v1] := by cases args; simp_all
  obtain ⟨rfl, rfl⟩ := trodVars_none hV
  have wt0 : ∀ k ∈ DataW.weights Tryz.prog 28 d0, k ≤ reachBytes := fun k hk => by simpa using List.all_eq_true.1 hsz _ (DataW.weights_mem_each (j := 0) rfl rfl k hk)
  have wt1 : ∀ k ∈ DataW.weights Tryz.prog 28 d1, k ≤ reachBytes := fun k hk => by simpa using List.all_eq_true.1 hsz _ (DataW.weights_mem_each (j := 1) rfl rfl k hk)
  have k0 := h0
  have k1 := h1
  have lt0 : ∀ x ∈ p0, x.block < W.heap.size := by obtain ⟨m, hm⟩ := k0; exact DataW.trod_lt m _ _ _ hm
  have lt1 : ∀ x ∈ p1, x.block < W.heap.size := by obtain ⟨m, hm⟩ := k1; exact DataW.trod_lt m _ _ _ hm
  obtain ⟨s0, rfl, rd0⟩ := arg_agg (g := 5) (by kernel_rfl) (hval 0 28 v0 rfl rfl) h0 (by kernel_rfl) wt0
  obtain ⟨s1, rfl, rd1⟩ := arg_agg (g := 5) (by kernel_rfl) (hval 1 28 v1 rfl rfl) h1 (by kernel_rfl) wt1
  obtain ⟨c0, a0, rfl, i0, m0⟩ := rd_con (g := 2) rd0
  obtain ⟨c1, a1, rfl, i1, m1⟩ := rd_con (g := 2) rd1
  clear hA0 hval0
  refine (identity_walk form_inj form_ref c0 c1 a0 a1 i0 i1 W (glob_of hL hS) m0 m1).mono fun e W' ⟨he, bel0⟩ => ?_
  have bel := bel0.below
  subst he
  exact ⟨_, rfl, _, _, _, [], _, [], hW', trodAll_mk1 (shut_bool Tryz.underlying4 _), (trodAll_cons_mk (Below.trod laidOut (by kernel_rfl) (of_decide_eq_true (by kernel_rfl)) k0 bel lt0) (trodAll_cons_mk (Below.trod laidOut (by kernel_rfl) (of_decide_eq_true (by kernel_rfl)) k1 bel lt1) trodAll_mk0)), rfl, bel.frame _, fun h => by cases h⟩

theorem over : Rows.canonicalIdentityRow.holds Tryz.pinned (OpenSpec.ofChange Rows.canonicalIdentitySpec) :=
  OpenClaim.holds_of_cond 3 Tryz.f3 rfl rfl rfl rfl rfl rfl rfl ⟨rfl, rfl, rfl, rfl, rfl⟩ rfl rfl rfl rfl rfl (by kernel_rfl) Tryz.func3 facts
    (of_decide_eq_true (by kernel_rfl)) (by unfold Func.isWrapper; first | (rw [if_pos (by decide +kernel)]; kernel_rfl) | (rw [if_neg (by decide +kernel)]; exact ⟨rfl, rfl⟩))
    (fun os started H enc _ F => by rw [OpenClaim.pre_eq_preRow]; exact lifted os started H enc F)

theorem byText : Rows.canonicalIdentityRow.wfByText (OpenSpec.ofChange Rows.canonicalIdentitySpec) = true := by kernel_rfl
theorem main : Tryz.prog.mainIs = some (true, "f1143ee6c93250823ffc2d7c96979871d0a35fd379d76a05d4adef1ad60bab03".toList) := by kernel_rfl
theorem looksAt : false = Tryz.prog.looks [] := by kernel_rfl
theorem goesBy : false = Rows.canonicalIdentityRow.goesBy Tryz.prog := by kernel_rfl
theorem standIn : Tryz.prog.wantsStandIn 28 = false := by kernel_rfl
theorem named : Tryz.prog.funcNamed "bulletin/bulletinlaw18.CanonicalIdentity" = some 3 := by kernel_rfl

/-- the given statement -/
theorem proved : Rows.CanonicalIdentityCardSaid :=
  Claim7.holds_tied_plain_at .later [] [.data, .data, .data, .data, .pinned] true (true, "f1143ee6c93250823ffc2d7c96979871d0a35fd379d76a05d4adef1ad60bab03") false over (fun _ h => by cases h) byText (fun _ h => by cases h) canonicalIdentity_row_tie rfl ⟨rfl, rfl⟩ main rfl
    (fun f fn hf hfn => by
      obtain rfl : f = 3 := Option.some.inj (named.symm.trans hf) |>.symm
      obtain rfl : fn = Tryz.f3 := (Option.some.inj (Tryz.func3.symm.trans hfn)).symm
      exact ⟨looksAt, fun j t ht => by
        rw [Tryz.params3] at ht
        have hm : t ∈ [28, 28] := by simpa using Array.mem_of_getElem? ht
        obtain rfl : t = 28 := by simpa using hm
        exact standIn⟩)
    goesBy
#print axioms proved
end Go.Proofs.YthfhhkanpnemcaaGreatDoor.idDone
