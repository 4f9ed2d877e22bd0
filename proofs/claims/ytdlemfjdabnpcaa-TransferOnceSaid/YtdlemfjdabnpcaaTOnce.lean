/- What is proved: for every input TransferOnce returns true, and its arguments read behind the call as they read before. -/
import Derived.Test.YtdlemfjdabnpcaaRows
import Derived.Test.YtdlemfjdabnpcaaTrA
import Derived.WalkKit
import Derived.ProofKit
import Derived.OpenShut
import Derived.ShutString
import Derived.ChangeOld
import Derived.Below
import Derived.SizedLaws
namespace Go.Proofs.Ytdlemfjdabnpcaa.onceDone
open Go.ChangeShapes Go.WideShapes Go.ChangeAt Go.RowKit
open Go.ChangeMaps (open_string shut_string)
open Go.SL
set_option linter.unusedVariables false
set_option maxRecDepth 100000
set_option maxHeartbeats 4000000

theorem own : ownKnob Try.prog.godebug = none := by kernel_rfl
theorem laidOut : laidOutB Try.prog = true := by kernel_rfl

theorem lifted (os : Os) (started : os.Started) (H : Type) (enc : TypeId × Value → H) :
    ReturnsInHanded {} Try.checked os 5 .any (Rows.transferOnceSpec.pre6 enc Try.prog Try.f5 Rows.transferOnceRow.domain false) (Rows.transferOnceSpec.post enc Try.prog Try.f5 false true false false) := by
  refine returnsInHanded_of_change_sized (C := Try.checked) own started (by kernel_rfl) Try.func5
    (ChangeSpec.witness6 (enc := enc) (C := Try.checked) false ⟨#[], #[.agg (Array.replicate 32 (.int .u8 0)), .string ByteArray.empty, .int .u16 0, .slice none 0 0], []⟩ 8 (by kernel_rfl) (by kernel_rfl) (by kernel_rfl) (by kernel_rfl)) ?_
  intro W base args ds gs before hval0 hW hcnd hsz _
  have hval : ∀ (j : Nat) t v, Try.f5.params[j]? = some t → args[j]? = some v → Value.okWide Try.prog W .any base t v := hval0
  have hW' := hW
  obtain ⟨p, q, hA0, hV, rfl, hfz, hnd⟩ := hW
  have hA : DataW.TrodAll enc Try.prog W 0 (fun _ => true) true Try.f5.params.toList args.toList ds p := hA0
  rw [Try.params5] at hA hval hsz
  obtain ⟨v0, vs0, d0, ds0, p0, q0, hargs, rfl, rfl, h0, r0⟩ := trodAll_cons hA
  obtain ⟨v1, vs1, d1, ds1, p1, q1, rfl, rfl, rfl, h1, r1⟩ := trodAll_cons r0
  obtain ⟨v2, vs2, d2, ds2, p2, q2, rfl, rfl, rfl, h2, r2⟩ := trodAll_cons r1
  obtain ⟨v3, vs3, d3, ds3, p3, q3, rfl, rfl, rfl, h3, r3⟩ := trodAll_cons r2
  obtain ⟨rfl, rfl, rfl⟩ := trodAll_nil r3
  obtain rfl : args = #[v0, v1, v2, v3] := by cases args; simp_all
  obtain ⟨rfl, rfl⟩ := trodVars_none hV
  have wt0 : ∀ k ∈ DataW.weights Try.prog 23 d0, k ≤ reachBytes := fun k hk => by simpa using List.all_eq_true.1 hsz _ (DataW.weights_mem_each (j := 0) rfl rfl k hk)
  have k0 := h0
  have lt0 : ∀ x ∈ p0, x.block < W.heap.size := by obtain ⟨m, hm⟩ := k0; exact DataW.trod_lt m _ _ _ hm
  have wt1 : ∀ k ∈ DataW.weights Try.prog 9 d1, k ≤ reachBytes := fun k hk => by simpa using List.all_eq_true.1 hsz _ (DataW.weights_mem_each (j := 1) rfl rfl k hk)
  have k1 := h1
  have lt1 : ∀ x ∈ p1, x.block < W.heap.size := by obtain ⟨m, hm⟩ := k1; exact DataW.trod_lt m _ _ _ hm
  have wt2 : ∀ k ∈ DataW.weights Try.prog 48 d2, k ≤ reachBytes := fun k hk => by simpa using List.all_eq_true.1 hsz _ (DataW.weights_mem_each (j := 2) rfl rfl k hk)
  have k2 := h2
  have lt2 : ∀ x ∈ p2, x.block < W.heap.size := by obtain ⟨m, hm⟩ := k2; exact DataW.trod_lt m _ _ _ hm
  have wt3 : ∀ k ∈ DataW.weights Try.prog 49 d3, k ≤ reachBytes := fun k hk => by simpa using List.all_eq_true.1 hsz _ (DataW.weights_mem_each (j := 3) rfl rfl k hk)
  have k3 := h3
  have lt3 : ∀ x ∈ p3, x.block < W.heap.size := by obtain ⟨m, hm⟩ := k3; exact DataW.trod_lt m _ _ _ hm
  obtain ⟨s0, rfl, rd0⟩ := arg_agg (g := 1) (by kernel_rfl) (hval 0 23 v0 rfl rfl) h0 (by kernel_rfl) wt0
  simp only [Rd, Try.underlying23] at rd0
  obtain ⟨b0, rfl⟩ := rd0
  obtain ⟨t1, rfl, hd1, _, hl1⟩ := open_string Try.underlying9 (hval 1 9 v1 rfl rfl) h1
  have hlen1 : t1.data.toList.length ≤ 9223372036854775807 := Nat.le_trans (show t1.data.toList.length ≤ maxLen from hl1) (by decide)
  obtain ⟨a2, rfl, hd2, _, wf2⟩ := open_int Try.underlying48 (hval 2 48 v2 rfl rfl) h2
  obtain ⟨a3, len3, cap3, rfl⟩ := okWide_slice Try.underlying49 (hval 3 49 v3 rfl rfl)
  have rd3 := arg_slice (g := 7) Try.underlying49 h3 (by kernel_rfl) wt3
  have hlen3 : len3 ≤ 9223372036854775807 := by
    rcases rd3 with ⟨_, rfl, _⟩ | ⟨_, _, h3, h4, _⟩
    · omega
    · have : maxLen ≤ 9223372036854775807 := by decide
      omega
  have sl3 := slRd_of (P := Try.prog) 37 (by kernel_rfl) (by omega) (fun es he => by obtain ⟨c, a, v, i, f, x, rfl, _⟩ := rd_att he; rfl) rd3
  clear hA0 hval0
  have hw := once_walk b0 t1.data.toList a2 a3 len3 cap3 W wf2 hlen3 sl3 hlen1
  refine hw.mono fun e W' ⟨he, bel0⟩ => ?_
  have bel := bel0.below
  subst he
  exact ⟨_, rfl, _, _, _, [], _, [], hW', trodAll_mk1 (shut_bool Try.underlying4 _), (trodAll_cons_mk (Below.trod laidOut (by kernel_rfl) (of_decide_eq_true (by kernel_rfl)) k0 bel lt0) (trodAll_cons_mk (Below.trod laidOut (by kernel_rfl) (of_decide_eq_true (by kernel_rfl)) k1 bel lt1) (trodAll_cons_mk (Below.trod laidOut (by kernel_rfl) (of_decide_eq_true (by kernel_rfl)) k2 bel lt2) (trodAll_cons_mk (Below.trod laidOut (by kernel_rfl) (of_decide_eq_true (by kernel_rfl)) k3 bel lt3) trodAll_mk0)))), rfl, bel.frame _, fun h => by cases h⟩

theorem over : Rows.transferOnceRow.holds Try.pinned (OpenSpec.ofChange Rows.transferOnceSpec) :=
  OpenClaim.holds_of_wide 5 Try.f5 rfl rfl rfl rfl rfl rfl rfl ⟨rfl, rfl, rfl, rfl, rfl⟩ rfl rfl rfl rfl rfl (by kernel_rfl) Try.func5 (by kernel_rfl)
    (of_decide_eq_true (by kernel_rfl)) (by unfold Func.isWrapper; first | (rw [if_pos (by decide +kernel)]; kernel_rfl) | (rw [if_neg (by decide +kernel)]; exact ⟨rfl, rfl⟩))
    (fun os started H enc _ => lifted os started H enc)

/-- the given statement -/
theorem proved : Rows.TransferOnceSaid := over
#print axioms proved
end Go.Proofs.Ytdlemfjdabnpcaa.onceDone
