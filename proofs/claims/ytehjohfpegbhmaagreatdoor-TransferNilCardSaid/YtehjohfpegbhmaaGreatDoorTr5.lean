/- Contracts of package transfer: Clone, Equal; the sender. -/
import Derived.Test.YtehjohfpegbhmaaGreatDoorTr4
namespace Go.Proofs.YtehjohfpegbhmaaGreatDoor
open Go.SL Go.RowKit
set_option linter.unusedVariables false
set_option maxRecDepth 100000
set_option linter.unusedSimpArgs false

theorem clone_c (b : Nat) (r : RS) (x : BX) (hok : rok b r x) (hi : rinv r) (w : World) (hm : Mem (blocksOf (rmem b r x)) w (rmem b r x) w) :
    Calls Tryz.prog 16 [.pointer (some ⟨b, 0, none⟩)].toArray w fun e w' => ∃ z : Nat × BX, rok z.1 r z.2 ∧ e = .returned (.pointer (some ⟨z.1, 0, none⟩)) ∧ Post w (blocksOf (rmem b r x)) (rmem z.1 r z.2 ++ rmem b r x) w' := by
  obtain ⟨h0, h1, h3⟩ := hi
  refine SL.calls_ok (n := 29) (W := (blocksOf (rmem b r x))) (m := rmem b r x) Tryz.func16 rfl Tryz.ntmps16 rfl hm ?_
  simp only [SL.enum, Nat.reduceAdd]
  refine SL.Ok.seq fun K1 hK1 => ?_
  refine SL.Ok.region ?_
  refine SL.Ok.op rfl rfl rfl (SL.Pure.assign rfl rfl) ?_
  refine SL.Ok.nil ?_
  refine SL.Ok.normThen ?_
  refine hK1 _ _ ?_
  refine SL.Ok.seq fun K2 hK2 => ?_
  refine SL.Ok.seq fun K3 hK3 => ?_
  refine SL.Ok.region ?_
  refine SL.Ok.op rfl rfl rfl (SL.Pure.move rfl rfl) ?_
  refine SL.Ok.op rfl rfl rfl (SL.Pure.eqNil rfl rfl rfl Tryz.underlying28) ?_
  refine SL.Ok.nil ?_
  refine SL.Ok.normThen ?_
  refine hK3 _ _ ?_
  refine SL.Ok.condF' rfl (rfl) ?_
  refine SL.Ok.skip' ?_
  refine SL.Ok.normThen ?_
  refine hK2 _ _ ?_
  refine SL.Ok.seq fun K4 hK4 => ?_
  refine SL.Ok.still 13 mixed (by kernel_rfl) rfl rfl (fun wd3 => ?_)
  refine SL.OkS.op rfl rfl rfl (SL.Pure.move rfl rfl) ?_
  refine SL.OkS.op rfl rfl rfl (SL.Pure.nilCheck rfl rfl) ?_
  refine SL.OkS.op rfl rfl rfl (SL.Pure.fieldAddr (k := 0) rfl rfl (by kernel_rfl) rfl) ?_
  refine SL.OkS.op rfl rfl rfl (by first | exact SL.Pure.loadA 0 (k := 32) rfl rfl rfl (by kernel_rfl) rfl (by kernel_rfl) | exact SL.Pure.loadA 1 (k := 32) rfl rfl rfl (by kernel_rfl) rfl (by kernel_rfl)) ?_
  refine SL.OkS.op rfl rfl rfl (SL.Pure.move rfl rfl) ?_
  refine SL.OkS.op rfl rfl rfl (SL.Pure.nilCheck rfl rfl) ?_
  refine SL.OkS.op rfl rfl rfl (SL.Pure.fieldAddr (k := 32) rfl rfl (by kernel_rfl) rfl) ?_
  refine SL.OkS.op rfl rfl rfl (by first | exact SL.Pure.load1 0 rfl rfl rfl rfl (by kernel_rfl) | exact SL.Pure.load1 1 rfl rfl rfl rfl (by kernel_rfl)) ?_
  refine SL.OkS.op rfl rfl rfl (SL.Pure.move rfl rfl) ?_
  refine SL.OkS.op rfl rfl rfl (SL.Pure.nilCheck rfl rfl) ?_
  refine SL.OkS.op rfl rfl rfl (SL.Pure.fieldAddr (k := 35) rfl rfl (by kernel_rfl) rfl) ?_
  refine SL.OkS.op rfl rfl rfl (by first | exact SL.Pure.load1 0 rfl rfl rfl rfl (by kernel_rfl) | exact SL.Pure.load1 1 rfl rfl rfl rfl (by kernel_rfl)) ?_
  refine SL.OkS.op rfl rfl rfl (SL.Pure.build [(0, 32), (32, 1), (33, 2), (35, 1)] [(B.zero 32).seg, Seg.one (.int .i64 0) rfl, Seg.one (.pointer none) rfl, Seg.one (.slice none 0 0) rfl, Seg.one (.bool false) rfl] rfl rfl (.cons .agg (.cons (.one rfl) (.cons (.one rfl) .nil))) (by kernel_rfl) (by kernel_rfl) rfl) ?_
  refine SL.OkS.tail ?_
  refine SL.Ok.eff rfl (SL.Eff.box _ rfl rfl rfl rfl rfl) ?_
  intro b19 _
  try simp only [SL.setN, SL.putD, SL.selM, SL.nth, List.cons_append, List.nil_append]
  refine SL.Ok.op rfl rfl rfl (SL.Pure.assign rfl rfl) ?_
  refine SL.Ok.nil ?_
  refine SL.Ok.nilRow 5 1 ?_
  refine SL.Ok.normThen ?_
  refine hK4 _ _ ?_
  refine SL.Ok.seq fun K5 hK5 => ?_
  refine SL.Ok.held [2, 3] mixed rfl rfl ?_
  simp only [List.replicate, List.length_cons, List.length_nil, Nat.reduceAdd]
  refine SL.OkH.take 0 rfl rfl rfl rfl (by kernel_rfl) (by kernel_rfl) (by kernel_rfl) rfl (fun _ _ _ h => h) [2, 3] rfl rfl (SL.Pure.move rfl rfl) ?_
  refine SL.OkH.take 1 rfl rfl rfl rfl (by kernel_rfl) (by kernel_rfl) (by kernel_rfl) rfl (fun _ _ _ h => h) [2, 3] rfl rfl (SL.Pure.nilCheck rfl rfl) ?_
  refine SL.OkH.take 2 rfl rfl rfl rfl (by kernel_rfl) (by kernel_rfl) (by kernel_rfl) rfl (fun _ _ _ h => h) [2, 3] rfl rfl (SL.Pure.fieldAddr (k := 33) rfl rfl (by kernel_rfl) rfl) ?_
  refine SL.OkH.take 3 rfl rfl rfl rfl (by kernel_rfl) (by kernel_rfl) (by kernel_rfl) rfl (fun _ _ _ h => h) [2, 3] rfl rfl (SL.Pure.move rfl rfl) ?_
  refine SL.OkH.take 4 rfl rfl rfl rfl (by kernel_rfl) (by kernel_rfl) (by kernel_rfl) rfl (fun _ _ _ h => h) [2, 3] rfl rfl (SL.Pure.nilCheck rfl rfl) ?_
  refine SL.OkH.take 5 rfl rfl rfl rfl (by kernel_rfl) (by kernel_rfl) (by kernel_rfl) rfl (fun _ _ _ h => h) [2, 3] rfl rfl (SL.Pure.fieldAddr (k := 33) rfl rfl (by kernel_rfl) rfl) ?_
  refine SL.OkH.eff 6 rfl rfl (by kernel_rfl) rfl [0, 1] (fun _ => rfl) rfl (SL.Eff.at rfl (SL.Eff.call [2, 3] [0, 1] rfl rfl (by kernel_rfl) rfl rfl rfl rfl (fun w hM hK => bld_string b _ _ (rpre r.id r.size) (rpost r.fin) x.p x.a x.c r.t hok.2 w (hM.sel [2, 3] rfl).own))) ?_
  intro _ _
  try simp only [SL.setN, SL.putD, SL.selM, SL.nth, List.cons_append, List.nil_append]
  refine SL.OkH.eff 7 rfl rfl (by kernel_rfl) rfl [2, 3] (fun _ => rfl) rfl (SL.Eff.at rfl (SL.Eff.call [3, 2] [0, 1] rfl rfl (by kernel_rfl) rfl rfl rfl rfl (fun w hM hK => bld_write b19 _ (rpre r.id r.size) (rpost r.fin) rfl none none 0 0 (bytesV []) r.t (.inl rfl) trivial (by omega) w (rlies _ _ _ _ _ (by rw [flat_size]; rfl) rfl) (hM.sel [3, 2] rfl).own))) ?_
  intro y hy
  try simp only [SL.setN, SL.putD, SL.selM, SL.nth, List.cons_append, List.nil_append]
  refine SL.OkH.done (by kernel_rfl) ?_
  refine SL.Ok.normThen ?_
  refine hK5 _ _ ?_
  refine SL.Ok.seq fun K6 hK6 => ?_
  refine SL.Ok.region ?_
  refine SL.Ok.op rfl rfl rfl (SL.Pure.move rfl rfl) ?_
  refine SL.Ok.op rfl rfl rfl (SL.Pure.assign rfl rfl) ?_
  refine SL.Ok.nil ?_
  refine SL.Ok.normThen ?_
  refine hK6 _ _ ?_
  refine SL.Ok.ret SL.retHere (SL.resL rfl (.cons (.tmp rfl) .nil) rfl) (fun w' hM' hK' => ?_)
  refine ⟨(b19, ⟨some ⟨b19, 33, none⟩, y.1, y.2⟩), ⟨.inr rfl, ?_⟩, rfl, hK', ?_⟩
  · simpa using hy
  · have hM2 := hM'
    simp only [Nat.zero_add, ← bytesV_append, List.nil_append] at hM2
    exact hM2

/-- Equal of two receivers -/
def eqR (r s : RS) : Bool := decide (r.id = s.id) && decide (r.size = s.size) && (r.fin == s.fin) && decide (r.t = s.t)

theorem equal_c (b d : Nat) (r s : RS) (x y : BX) (hx : rok b r x) (hy : rok d s y) (w : World) (hm : Mem (blocksOf (rmem b r x ++ rmem d s y)) w (rmem b r x ++ rmem d s y) w) :
    Calls Tryz.prog 17 [.pointer (some ⟨b, 0, none⟩), .pointer (some ⟨d, 0, none⟩)].toArray w fun e w' => ∃ _ : Unit, True ∧ e = .returned (.bool (eqR r s)) ∧ Post w (blocksOf (rmem b r x ++ rmem d s y)) (rmem b r x ++ rmem d s y) w' := by
  by_cases h1 : r.id = s.id
  rotate_left
  · have hf : eqR r s = false := by simp [eqR, h1]
    rw [hf]
    refine SL.calls_ok (n := 59) (W := (blocksOf (rmem b r x ++ rmem d s y))) (m := (rmem b r x ++ rmem d s y)) Tryz.func17 rfl Tryz.ntmps17 rfl hm ?_
    simp only [SL.enum, Nat.reduceAdd]
    refine SL.Ok.seq fun K1 hK1 => ?_
    refine SL.Ok.region ?_
    refine SL.Ok.op rfl rfl rfl (SL.Pure.assign rfl rfl) ?_
    refine SL.Ok.nil ?_
    refine SL.Ok.normThen ?_
    refine hK1 _ _ ?_
    refine SL.Ok.seq fun K2 hK2 => ?_
    refine SL.Ok.seq fun K3 hK3 => ?_
    refine SL.Ok.region ?_
    refine SL.Ok.op rfl rfl rfl (SL.Pure.move rfl rfl) ?_
    refine SL.Ok.op rfl rfl rfl (SL.Pure.eqNil rfl rfl rfl Tryz.underlying28) ?_
    refine SL.Ok.op rfl rfl rfl (SL.Pure.move rfl rfl) ?_
    refine SL.Ok.setF (d := 7) rfl (rfl) ?_
    refine SL.Ok.opG rfl rfl rfl rfl rfl rfl rfl (SL.Pure.move rfl rfl) ?_
    refine SL.Ok.opG rfl rfl rfl rfl rfl rfl rfl (SL.Pure.eqNil rfl rfl rfl Tryz.underlying28) ?_
    refine SL.Ok.op rfl rfl rfl (SL.Pure.pickF rfl rfl rfl) ?_
    refine SL.Ok.nil ?_
    refine SL.Ok.normThen ?_
    refine hK3 _ _ ?_
    refine SL.Ok.condF' rfl (rfl) ?_
    refine SL.Ok.skip' ?_
    refine SL.Ok.normThen ?_
    refine hK2 _ _ ?_
    refine SL.Ok.seq fun K4 hK4 => ?_
    refine SL.Ok.held [0, 1, 2, 3] mixed rfl rfl ?_
    simp only [List.replicate, List.length_cons, List.length_nil, Nat.reduceAdd]
    refine SL.OkH.take 0 rfl rfl rfl rfl (by kernel_rfl) (by kernel_rfl) (by kernel_rfl) rfl (fun _ _ _ h => h) [0, 1, 2, 3] rfl rfl (SL.Pure.move rfl rfl) ?_
    refine SL.OkH.take 1 rfl rfl rfl rfl (by kernel_rfl) (by kernel_rfl) (by kernel_rfl) rfl (fun _ _ _ h => h) [0, 1, 2, 3] rfl rfl (SL.Pure.nilCheck rfl rfl) ?_
    refine SL.OkH.take 2 rfl rfl rfl rfl (by kernel_rfl) (by kernel_rfl) (by kernel_rfl) rfl (fun _ _ _ h => h) [0, 1, 2, 3] rfl rfl (SL.Pure.fieldAddr (k := 0) rfl rfl (by kernel_rfl) rfl) ?_
    refine SL.OkH.take 3 rfl rfl rfl rfl (by kernel_rfl) (by kernel_rfl) (by kernel_rfl) rfl (fun _ _ _ h => h) [0, 1, 2, 3] rfl rfl (by first | exact SL.Pure.loadA 0 (k := 32) rfl rfl rfl (by kernel_rfl) rfl (by kernel_rfl) | exact SL.Pure.loadA 1 (k := 32) rfl rfl rfl (by kernel_rfl) rfl (by kernel_rfl) | exact SL.Pure.loadA 2 (k := 32) rfl rfl rfl (by kernel_rfl) rfl (by kernel_rfl) | exact SL.Pure.loadA 3 (k := 32) rfl rfl rfl (by kernel_rfl) rfl (by kernel_rfl)) ?_
    refine SL.OkH.take 4 rfl rfl rfl rfl (by kernel_rfl) (by kernel_rfl) (by kernel_rfl) rfl (fun _ _ _ h => h) [0, 1, 2, 3] rfl rfl (SL.Pure.move rfl rfl) ?_
    refine SL.OkH.take 5 rfl rfl rfl rfl (by kernel_rfl) (by kernel_rfl) (by kernel_rfl) rfl (fun _ _ _ h => h) [0, 1, 2, 3] rfl rfl (SL.Pure.nilCheck rfl rfl) ?_
    refine SL.OkH.take 6 rfl rfl rfl rfl (by kernel_rfl) (by kernel_rfl) (by kernel_rfl) rfl (fun _ _ _ h => h) [0, 1, 2, 3] rfl rfl (SL.Pure.fieldAddr (k := 0) rfl rfl (by kernel_rfl) rfl) ?_
    refine SL.OkH.take 7 rfl rfl rfl rfl (by kernel_rfl) (by kernel_rfl) (by kernel_rfl) rfl (fun _ _ _ h => h) [0, 1, 2, 3] rfl rfl (by first | exact SL.Pure.loadA 0 (k := 32) rfl rfl rfl (by kernel_rfl) rfl (by kernel_rfl) | exact SL.Pure.loadA 1 (k := 32) rfl rfl rfl (by kernel_rfl) rfl (by kernel_rfl) | exact SL.Pure.loadA 2 (k := 32) rfl rfl rfl (by kernel_rfl) rfl (by kernel_rfl) | exact SL.Pure.loadA 3 (k := 32) rfl rfl rfl (by kernel_rfl) rfl (by kernel_rfl)) ?_
    refine SL.OkH.take 8 rfl rfl rfl rfl (by kernel_rfl) (by kernel_rfl) (by kernel_rfl) rfl (fun _ _ _ h => h) [0, 1, 2, 3] rfl rfl (SL.Pure.eqB rfl rfl rfl Tryz.underlying23 Tryz.underlying5 (by kernel_rfl) (by kernel_rfl)) ?_
    refine SL.OkH.take 9 rfl rfl rfl rfl (by kernel_rfl) (by kernel_rfl) (by kernel_rfl) rfl (fun _ _ _ h => h) [0, 1, 2, 3] rfl rfl (SL.Pure.move rfl rfl) ?_
    refine SL.OkH.setF (d := 26) rfl (by simp [h1]) ?_
    refine SL.OkH.takeS 10 rfl rfl rfl rfl rfl rfl rfl rfl (by kernel_rfl) (by kernel_rfl) (by kernel_rfl) rfl (fun _ _ _ h => h) [0, 1, 2, 3] rfl rfl ?_
    refine SL.OkH.takeS 11 rfl rfl rfl rfl rfl rfl rfl rfl (by kernel_rfl) (by kernel_rfl) (by kernel_rfl) rfl (fun _ _ _ h => h) [0, 1, 2, 3] rfl rfl ?_
    refine SL.OkH.takeS 12 rfl rfl rfl rfl rfl rfl rfl rfl (by kernel_rfl) (by kernel_rfl) (by kernel_rfl) rfl (fun _ _ _ h => h) [0, 1, 2, 3] rfl rfl ?_
    refine SL.OkH.takeS 13 rfl rfl rfl rfl rfl rfl rfl rfl (by kernel_rfl) (by kernel_rfl) (by kernel_rfl) rfl (fun _ _ _ h => h) [0, 1, 2, 3] rfl rfl ?_
    refine SL.OkH.takeS 14 rfl rfl rfl rfl rfl rfl rfl rfl (by kernel_rfl) (by kernel_rfl) (by kernel_rfl) rfl (fun _ _ _ h => h) [0, 1, 2, 3] rfl rfl ?_
    refine SL.OkH.takeS 15 rfl rfl rfl rfl rfl rfl rfl rfl (by kernel_rfl) (by kernel_rfl) (by kernel_rfl) rfl (fun _ _ _ h => h) [0, 1, 2, 3] rfl rfl ?_
    refine SL.OkH.takeS 16 rfl rfl rfl rfl rfl rfl rfl rfl (by kernel_rfl) (by kernel_rfl) (by kernel_rfl) rfl (fun _ _ _ h => h) [0, 1, 2, 3] rfl rfl ?_
    refine SL.OkH.takeS 17 rfl rfl rfl rfl rfl rfl rfl rfl (by kernel_rfl) (by kernel_rfl) (by kernel_rfl) rfl (fun _ _ _ h => h) [0, 1, 2, 3] rfl rfl ?_
    refine SL.OkH.takeS 18 rfl rfl rfl rfl rfl rfl rfl rfl (by kernel_rfl) (by kernel_rfl) (by kernel_rfl) rfl (fun _ _ _ h => h) [0, 1, 2, 3] rfl rfl ?_
    refine SL.OkH.take 19 rfl rfl rfl rfl (by kernel_rfl) (by kernel_rfl) (by kernel_rfl) rfl (fun _ _ _ h => h) [0, 1, 2, 3] rfl rfl (SL.Pure.pickF rfl rfl rfl) ?_
    refine SL.OkH.take 20 rfl rfl rfl rfl (by kernel_rfl) (by kernel_rfl) (by kernel_rfl) rfl (fun _ _ _ h => h) [0, 1, 2, 3] rfl rfl (SL.Pure.move rfl rfl) ?_
    refine SL.OkH.takeS 21 rfl rfl rfl rfl rfl rfl rfl rfl (by kernel_rfl) (by kernel_rfl) (by kernel_rfl) rfl (fun _ _ _ h => h) [0, 1, 2, 3] rfl rfl ?_
    refine SL.OkH.takeS 22 rfl rfl rfl rfl rfl rfl rfl rfl (by kernel_rfl) (by kernel_rfl) (by kernel_rfl) rfl (fun _ _ _ h => h) [0, 1, 2, 3] rfl rfl ?_
    refine SL.OkH.takeS 23 rfl rfl rfl rfl rfl rfl rfl rfl (by kernel_rfl) (by kernel_rfl) (by kernel_rfl) rfl (fun _ _ _ h => h) [0, 1, 2, 3] rfl rfl ?_
    refine SL.OkH.takeS 24 rfl rfl rfl rfl rfl rfl rfl rfl (by kernel_rfl) (by kernel_rfl) (by kernel_rfl) rfl (fun _ _ _ h => h) [0, 1, 2, 3] rfl rfl ?_
    refine SL.OkH.takeS 25 rfl rfl rfl rfl rfl rfl rfl rfl (by kernel_rfl) (by kernel_rfl) (by kernel_rfl) rfl (fun _ _ _ h => h) [0, 1, 2, 3] rfl rfl ?_
    refine SL.OkH.takeS 26 rfl rfl rfl rfl rfl rfl rfl rfl (by kernel_rfl) (by kernel_rfl) (by kernel_rfl) rfl (fun _ _ _ h => h) [0, 1, 2, 3] rfl rfl ?_
    refine SL.OkH.takeS 27 rfl rfl rfl rfl rfl rfl rfl rfl (by kernel_rfl) (by kernel_rfl) (by kernel_rfl) rfl (fun _ _ _ h => h) [0, 1, 2, 3] rfl rfl ?_
    refine SL.OkH.takeS 28 rfl rfl rfl rfl rfl rfl rfl rfl (by kernel_rfl) (by kernel_rfl) (by kernel_rfl) rfl (fun _ _ _ h => h) [0, 1, 2, 3] rfl rfl ?_
    refine SL.OkH.takeS 29 rfl rfl rfl rfl rfl rfl rfl rfl (by kernel_rfl) (by kernel_rfl) (by kernel_rfl) rfl (fun _ _ _ h => h) [0, 1, 2, 3] rfl rfl ?_
    refine SL.OkH.take 30 rfl rfl rfl rfl (by kernel_rfl) (by kernel_rfl) (by kernel_rfl) rfl (fun _ _ _ h => h) [0, 1, 2, 3] rfl rfl (SL.Pure.pickF rfl rfl rfl) ?_
    refine SL.OkH.take 31 rfl rfl rfl rfl (by kernel_rfl) (by kernel_rfl) (by kernel_rfl) rfl (fun _ _ _ h => h) [0, 1, 2, 3] rfl rfl (SL.Pure.move rfl rfl) ?_
    refine SL.OkH.takeS 32 rfl rfl rfl rfl rfl rfl rfl rfl (by kernel_rfl) (by kernel_rfl) (by kernel_rfl) rfl (fun _ _ _ h => h) [0, 1, 2, 3] rfl rfl ?_
    refine SL.OkH.takeS 33 rfl rfl rfl rfl rfl rfl rfl rfl (by kernel_rfl) (by kernel_rfl) (by kernel_rfl) rfl (fun _ _ _ h => h) [0, 1, 2, 3] rfl rfl ?_
    refine SL.OkH.takeS 34 rfl rfl rfl rfl rfl rfl rfl rfl (by kernel_rfl) (by kernel_rfl) (by kernel_rfl) rfl (fun _ _ _ h => h) [0, 1, 2, 3] rfl rfl ?_
    refine SL.OkH.takeS 36 rfl rfl rfl rfl rfl rfl rfl rfl (by kernel_rfl) (by kernel_rfl) (by kernel_rfl) rfl (fun _ _ _ h => h) [0, 1, 2, 3] rfl rfl ?_
    refine SL.OkH.takeS 37 rfl rfl rfl rfl rfl rfl rfl rfl (by kernel_rfl) (by kernel_rfl) (by kernel_rfl) rfl (fun _ _ _ h => h) [0, 1, 2, 3] rfl rfl ?_
    refine SL.OkH.takeS 38 rfl rfl rfl rfl rfl rfl rfl rfl (by kernel_rfl) (by kernel_rfl) (by kernel_rfl) rfl (fun _ _ _ h => h) [0, 1, 2, 3] rfl rfl ?_
    refine SL.OkH.takeS 35 rfl rfl rfl rfl rfl rfl rfl rfl (by kernel_rfl) (by kernel_rfl) (by kernel_rfl) rfl (fun _ _ _ h => h) [0, 1, 2, 3] rfl rfl ?_
    refine SL.OkH.takeS 39 rfl rfl rfl rfl rfl rfl rfl rfl (by kernel_rfl) (by kernel_rfl) (by kernel_rfl) rfl (fun _ _ _ h => h) [0, 1, 2, 3] rfl rfl ?_
    refine SL.OkH.takeS 40 rfl rfl rfl rfl rfl rfl rfl rfl (by kernel_rfl) (by kernel_rfl) (by kernel_rfl) rfl (fun _ _ _ h => h) [0, 1, 2, 3] rfl rfl ?_
    refine SL.OkH.take 41 rfl rfl rfl rfl (by kernel_rfl) (by kernel_rfl) (by kernel_rfl) rfl (fun _ _ _ h => h) [0, 1, 2, 3] rfl rfl (SL.Pure.pickF rfl rfl rfl) ?_
    refine SL.OkH.take 42 rfl rfl rfl rfl (by kernel_rfl) (by kernel_rfl) (by kernel_rfl) rfl (fun _ _ _ h => h) [0, 1, 2, 3] rfl rfl (SL.Pure.assign rfl rfl) ?_
    refine SL.OkH.done (by kernel_rfl) ?_
    refine SL.Ok.normThen ?_
    refine hK4 _ _ ?_
    refine SL.Ok.ret SL.retHere (SL.resL rfl (.cons (.tmp rfl) .nil) rfl) (fun w' hM' hK' => ?_)
    exact ⟨(), trivial, rfl, hK', hM'⟩
  by_cases h2 : r.size = s.size
  rotate_left
  · have hf : eqR r s = false := by simp [eqR, h2]
    rw [hf]
    refine SL.calls_ok (n := 59) (W := (blocksOf (rmem b r x ++ rmem d s y))) (m := (rmem b r x ++ rmem d s y)) Tryz.func17 rfl Tryz.ntmps17 rfl hm ?_
    simp only [SL.enum, Nat.reduceAdd]
    refine SL.Ok.seq fun K1 hK1 => ?_
    refine SL.Ok.region ?_
    refine SL.Ok.op rfl rfl rfl (SL.Pure.assign rfl rfl) ?_
    refine SL.Ok.nil ?_
    refine SL.Ok.normThen ?_
    refine hK1 _ _ ?_
    refine SL.Ok.seq fun K2 hK2 => ?_
    refine SL.Ok.seq fun K3 hK3 => ?_
    refine SL.Ok.region ?_
    refine SL.Ok.op rfl rfl rfl (SL.Pure.move rfl rfl) ?_
    refine SL.Ok.op rfl rfl rfl (SL.Pure.eqNil rfl rfl rfl Tryz.underlying28) ?_
    refine SL.Ok.op rfl rfl rfl (SL.Pure.move rfl rfl) ?_
    refine SL.Ok.setF (d := 7) rfl (rfl) ?_
    refine SL.Ok.opG rfl rfl rfl rfl rfl rfl rfl (SL.Pure.move rfl rfl) ?_
    refine SL.Ok.opG rfl rfl rfl rfl rfl rfl rfl (SL.Pure.eqNil rfl rfl rfl Tryz.underlying28) ?_
    refine SL.Ok.op rfl rfl rfl (SL.Pure.pickF rfl rfl rfl) ?_
    refine SL.Ok.nil ?_
    refine SL.Ok.normThen ?_
    refine hK3 _ _ ?_
    refine SL.Ok.condF' rfl (rfl) ?_
    refine SL.Ok.skip' ?_
    refine SL.Ok.normThen ?_
    refine hK2 _ _ ?_
    refine SL.Ok.seq fun K4 hK4 => ?_
    refine SL.Ok.held [0, 1, 2, 3] mixed rfl rfl ?_
    simp only [List.replicate, List.length_cons, List.length_nil, Nat.reduceAdd]
    refine SL.OkH.take 0 rfl rfl rfl rfl (by kernel_rfl) (by kernel_rfl) (by kernel_rfl) rfl (fun _ _ _ h => h) [0, 1, 2, 3] rfl rfl (SL.Pure.move rfl rfl) ?_
    refine SL.OkH.take 1 rfl rfl rfl rfl (by kernel_rfl) (by kernel_rfl) (by kernel_rfl) rfl (fun _ _ _ h => h) [0, 1, 2, 3] rfl rfl (SL.Pure.nilCheck rfl rfl) ?_
    refine SL.OkH.take 2 rfl rfl rfl rfl (by kernel_rfl) (by kernel_rfl) (by kernel_rfl) rfl (fun _ _ _ h => h) [0, 1, 2, 3] rfl rfl (SL.Pure.fieldAddr (k := 0) rfl rfl (by kernel_rfl) rfl) ?_
    refine SL.OkH.take 3 rfl rfl rfl rfl (by kernel_rfl) (by kernel_rfl) (by kernel_rfl) rfl (fun _ _ _ h => h) [0, 1, 2, 3] rfl rfl (by first | exact SL.Pure.loadA 0 (k := 32) rfl rfl rfl (by kernel_rfl) rfl (by kernel_rfl) | exact SL.Pure.loadA 1 (k := 32) rfl rfl rfl (by kernel_rfl) rfl (by kernel_rfl) | exact SL.Pure.loadA 2 (k := 32) rfl rfl rfl (by kernel_rfl) rfl (by kernel_rfl) | exact SL.Pure.loadA 3 (k := 32) rfl rfl rfl (by kernel_rfl) rfl (by kernel_rfl)) ?_
    refine SL.OkH.take 4 rfl rfl rfl rfl (by kernel_rfl) (by kernel_rfl) (by kernel_rfl) rfl (fun _ _ _ h => h) [0, 1, 2, 3] rfl rfl (SL.Pure.move rfl rfl) ?_
    refine SL.OkH.take 5 rfl rfl rfl rfl (by kernel_rfl) (by kernel_rfl) (by kernel_rfl) rfl (fun _ _ _ h => h) [0, 1, 2, 3] rfl rfl (SL.Pure.nilCheck rfl rfl) ?_
    refine SL.OkH.take 6 rfl rfl rfl rfl (by kernel_rfl) (by kernel_rfl) (by kernel_rfl) rfl (fun _ _ _ h => h) [0, 1, 2, 3] rfl rfl (SL.Pure.fieldAddr (k := 0) rfl rfl (by kernel_rfl) rfl) ?_
    refine SL.OkH.take 7 rfl rfl rfl rfl (by kernel_rfl) (by kernel_rfl) (by kernel_rfl) rfl (fun _ _ _ h => h) [0, 1, 2, 3] rfl rfl (by first | exact SL.Pure.loadA 0 (k := 32) rfl rfl rfl (by kernel_rfl) rfl (by kernel_rfl) | exact SL.Pure.loadA 1 (k := 32) rfl rfl rfl (by kernel_rfl) rfl (by kernel_rfl) | exact SL.Pure.loadA 2 (k := 32) rfl rfl rfl (by kernel_rfl) rfl (by kernel_rfl) | exact SL.Pure.loadA 3 (k := 32) rfl rfl rfl (by kernel_rfl) rfl (by kernel_rfl)) ?_
    refine SL.OkH.take 8 rfl rfl rfl rfl (by kernel_rfl) (by kernel_rfl) (by kernel_rfl) rfl (fun _ _ _ h => h) [0, 1, 2, 3] rfl rfl (SL.Pure.eqB rfl rfl rfl Tryz.underlying23 Tryz.underlying5 (by kernel_rfl) (by kernel_rfl)) ?_
    refine SL.OkH.take 9 rfl rfl rfl rfl (by kernel_rfl) (by kernel_rfl) (by kernel_rfl) rfl (fun _ _ _ h => h) [0, 1, 2, 3] rfl rfl (SL.Pure.move rfl rfl) ?_
    refine SL.OkH.setT (d := 26) rfl (by simp [h1]) ?_
    refine SL.OkH.takeG 10 rfl rfl rfl rfl rfl rfl rfl rfl (by kernel_rfl) (by kernel_rfl) (by kernel_rfl) rfl (fun _ _ _ h => h) [0, 1, 2, 3] rfl rfl (SL.Pure.move rfl rfl) ?_
    refine SL.OkH.takeG 11 rfl rfl rfl rfl rfl rfl rfl rfl (by kernel_rfl) (by kernel_rfl) (by kernel_rfl) rfl (fun _ _ _ h => h) [0, 1, 2, 3] rfl rfl (SL.Pure.nilCheck rfl rfl) ?_
    refine SL.OkH.takeG 12 rfl rfl rfl rfl rfl rfl rfl rfl (by kernel_rfl) (by kernel_rfl) (by kernel_rfl) rfl (fun _ _ _ h => h) [0, 1, 2, 3] rfl rfl (SL.Pure.fieldAddr (k := 32) rfl rfl (by kernel_rfl) rfl) ?_
    refine SL.OkH.takeG 13 rfl rfl rfl rfl rfl rfl rfl rfl (by kernel_rfl) (by kernel_rfl) (by kernel_rfl) rfl (fun _ _ _ h => h) [0, 1, 2, 3] rfl rfl (by first | exact SL.Pure.load1 0 rfl rfl rfl rfl (by kernel_rfl) | exact SL.Pure.load1 1 rfl rfl rfl rfl (by kernel_rfl) | exact SL.Pure.load1 2 rfl rfl rfl rfl (by kernel_rfl) | exact SL.Pure.load1 3 rfl rfl rfl rfl (by kernel_rfl)) ?_
    refine SL.OkH.takeG 14 rfl rfl rfl rfl rfl rfl rfl rfl (by kernel_rfl) (by kernel_rfl) (by kernel_rfl) rfl (fun _ _ _ h => h) [0, 1, 2, 3] rfl rfl (SL.Pure.move rfl rfl) ?_
    refine SL.OkH.takeG 15 rfl rfl rfl rfl rfl rfl rfl rfl (by kernel_rfl) (by kernel_rfl) (by kernel_rfl) rfl (fun _ _ _ h => h) [0, 1, 2, 3] rfl rfl (SL.Pure.nilCheck rfl rfl) ?_
    refine SL.OkH.takeG 16 rfl rfl rfl rfl rfl rfl rfl rfl (by kernel_rfl) (by kernel_rfl) (by kernel_rfl) rfl (fun _ _ _ h => h) [0, 1, 2, 3] rfl rfl (SL.Pure.fieldAddr (k := 32) rfl rfl (by kernel_rfl) rfl) ?_
    refine SL.OkH.takeG 17 rfl rfl rfl rfl rfl rfl rfl rfl (by kernel_rfl) (by kernel_rfl) (by kernel_rfl) rfl (fun _ _ _ h => h) [0, 1, 2, 3] rfl rfl (by first | exact SL.Pure.load1 0 rfl rfl rfl rfl (by kernel_rfl) | exact SL.Pure.load1 1 rfl rfl rfl rfl (by kernel_rfl) | exact SL.Pure.load1 2 rfl rfl rfl rfl (by kernel_rfl) | exact SL.Pure.load1 3 rfl rfl rfl rfl (by kernel_rfl)) ?_
    refine SL.OkH.takeG 18 rfl rfl rfl rfl rfl rfl rfl rfl (by kernel_rfl) (by kernel_rfl) (by kernel_rfl) rfl (fun _ _ _ h => h) [0, 1, 2, 3] rfl rfl (SL.Pure.eqi rfl rfl rfl) ?_
    refine SL.OkH.take 19 rfl rfl rfl rfl (by kernel_rfl) (by kernel_rfl) (by kernel_rfl) rfl (fun _ _ _ h => h) [0, 1, 2, 3] rfl rfl (SL.Pure.pickT rfl rfl rfl) ?_
    refine SL.OkH.take 20 rfl rfl rfl rfl (by kernel_rfl) (by kernel_rfl) (by kernel_rfl) rfl (fun _ _ _ h => h) [0, 1, 2, 3] rfl rfl (SL.Pure.move rfl rfl) ?_
    refine SL.OkH.setF (d := 37) rfl (by simp [h2]) ?_
    refine SL.OkH.takeS 21 rfl rfl rfl rfl rfl rfl rfl rfl (by kernel_rfl) (by kernel_rfl) (by kernel_rfl) rfl (fun _ _ _ h => h) [0, 1, 2, 3] rfl rfl ?_
    refine SL.OkH.takeS 22 rfl rfl rfl rfl rfl rfl rfl rfl (by kernel_rfl) (by kernel_rfl) (by kernel_rfl) rfl (fun _ _ _ h => h) [0, 1, 2, 3] rfl rfl ?_
    refine SL.OkH.takeS 23 rfl rfl rfl rfl rfl rfl rfl rfl (by kernel_rfl) (by kernel_rfl) (by kernel_rfl) rfl (fun _ _ _ h => h) [0, 1, 2, 3] rfl rfl ?_
    refine SL.OkH.takeS 24 rfl rfl rfl rfl rfl rfl rfl rfl (by kernel_rfl) (by kernel_rfl) (by kernel_rfl) rfl (fun _ _ _ h => h) [0, 1, 2, 3] rfl rfl ?_
    refine SL.OkH.takeS 25 rfl rfl rfl rfl rfl rfl rfl rfl (by kernel_rfl) (by kernel_rfl) (by kernel_rfl) rfl (fun _ _ _ h => h) [0, 1, 2, 3] rfl rfl ?_
    refine SL.OkH.takeS 26 rfl rfl rfl rfl rfl rfl rfl rfl (by kernel_rfl) (by kernel_rfl) (by kernel_rfl) rfl (fun _ _ _ h => h) [0, 1, 2, 3] rfl rfl ?_
    refine SL.OkH.takeS 27 rfl rfl rfl rfl rfl rfl rfl rfl (by kernel_rfl) (by kernel_rfl) (by kernel_rfl) rfl (fun _ _ _ h => h) [0, 1, 2, 3] rfl rfl ?_
    refine SL.OkH.takeS 28 rfl rfl rfl rfl rfl rfl rfl rfl (by kernel_rfl) (by kernel_rfl) (by kernel_rfl) rfl (fun _ _ _ h => h) [0, 1, 2, 3] rfl rfl ?_
    refine SL.OkH.takeS 29 rfl rfl rfl rfl rfl rfl rfl rfl (by kernel_rfl) (by kernel_rfl) (by kernel_rfl) rfl (fun _ _ _ h => h) [0, 1, 2, 3] rfl rfl ?_
    refine SL.OkH.take 30 rfl rfl rfl rfl (by kernel_rfl) (by kernel_rfl) (by kernel_rfl) rfl (fun _ _ _ h => h) [0, 1, 2, 3] rfl rfl (SL.Pure.pickF rfl rfl rfl) ?_
    refine SL.OkH.take 31 rfl rfl rfl rfl (by kernel_rfl) (by kernel_rfl) (by kernel_rfl) rfl (fun _ _ _ h => h) [0, 1, 2, 3] rfl rfl (SL.Pure.move rfl rfl) ?_
    refine SL.OkH.takeS 32 rfl rfl rfl rfl rfl rfl rfl rfl (by kernel_rfl) (by kernel_rfl) (by kernel_rfl) rfl (fun _ _ _ h => h) [0, 1, 2, 3] rfl rfl ?_
    refine SL.OkH.takeS 33 rfl rfl rfl rfl rfl rfl rfl rfl (by kernel_rfl) (by kernel_rfl) (by kernel_rfl) rfl (fun _ _ _ h => h) [0, 1, 2, 3] rfl rfl ?_
    refine SL.OkH.takeS 34 rfl rfl rfl rfl rfl rfl rfl rfl (by kernel_rfl) (by kernel_rfl) (by kernel_rfl) rfl (fun _ _ _ h => h) [0, 1, 2, 3] rfl rfl ?_
    refine SL.OkH.takeS 36 rfl rfl rfl rfl rfl rfl rfl rfl (by kernel_rfl) (by kernel_rfl) (by kernel_rfl) rfl (fun _ _ _ h => h) [0, 1, 2, 3] rfl rfl ?_
    refine SL.OkH.takeS 37 rfl rfl rfl rfl rfl rfl rfl rfl (by kernel_rfl) (by kernel_rfl) (by kernel_rfl) rfl (fun _ _ _ h => h) [0, 1, 2, 3] rfl rfl ?_
    refine SL.OkH.takeS 38 rfl rfl rfl rfl rfl rfl rfl rfl (by kernel_rfl) (by kernel_rfl) (by kernel_rfl) rfl (fun _ _ _ h => h) [0, 1, 2, 3] rfl rfl ?_
    refine SL.OkH.takeS 35 rfl rfl rfl rfl rfl rfl rfl rfl (by kernel_rfl) (by kernel_rfl) (by kernel_rfl) rfl (fun _ _ _ h => h) [0, 1, 2, 3] rfl rfl ?_
    refine SL.OkH.takeS 39 rfl rfl rfl rfl rfl rfl rfl rfl (by kernel_rfl) (by kernel_rfl) (by kernel_rfl) rfl (fun _ _ _ h => h) [0, 1, 2, 3] rfl rfl ?_
    refine SL.OkH.takeS 40 rfl rfl rfl rfl rfl rfl rfl rfl (by kernel_rfl) (by kernel_rfl) (by kernel_rfl) rfl (fun _ _ _ h => h) [0, 1, 2, 3] rfl rfl ?_
    refine SL.OkH.take 41 rfl rfl rfl rfl (by kernel_rfl) (by kernel_rfl) (by kernel_rfl) rfl (fun _ _ _ h => h) [0, 1, 2, 3] rfl rfl (SL.Pure.pickF rfl rfl rfl) ?_
    refine SL.OkH.take 42 rfl rfl rfl rfl (by kernel_rfl) (by kernel_rfl) (by kernel_rfl) rfl (fun _ _ _ h => h) [0, 1, 2, 3] rfl rfl (SL.Pure.assign rfl rfl) ?_
    refine SL.OkH.done (by kernel_rfl) ?_
    refine SL.Ok.normThen ?_
    refine hK4 _ _ ?_
    refine SL.Ok.ret SL.retHere (SL.resL rfl (.cons (.tmp rfl) .nil) rfl) (fun w' hM' hK' => ?_)
    exact ⟨(), trivial, rfl, hK', hM'⟩
  by_cases h3 : r.fin = s.fin
  rotate_left
  · have hf : eqR r s = false := by simp [eqR, h3]
    rw [hf]
    refine SL.calls_ok (n := 59) (W := (blocksOf (rmem b r x ++ rmem d s y))) (m := (rmem b r x ++ rmem d s y)) Tryz.func17 rfl Tryz.ntmps17 rfl hm ?_
    simp only [SL.enum, Nat.reduceAdd]
    refine SL.Ok.seq fun K1 hK1 => ?_
    refine SL.Ok.region ?_
    refine SL.Ok.op rfl rfl rfl (SL.Pure.assign rfl rfl) ?_
    refine SL.Ok.nil ?_
    refine SL.Ok.normThen ?_
    refine hK1 _ _ ?_
    refine SL.Ok.seq fun K2 hK2 => ?_
    refine SL.Ok.seq fun K3 hK3 => ?_
    refine SL.Ok.region ?_
    refine SL.Ok.op rfl rfl rfl (SL.Pure.move rfl rfl) ?_
    refine SL.Ok.op rfl rfl rfl (SL.Pure.eqNil rfl rfl rfl Tryz.underlying28) ?_
    refine SL.Ok.op rfl rfl rfl (SL.Pure.move rfl rfl) ?_
    refine SL.Ok.setF (d := 7) rfl (rfl) ?_
    refine SL.Ok.opG rfl rfl rfl rfl rfl rfl rfl (SL.Pure.move rfl rfl) ?_
    refine SL.Ok.opG rfl rfl rfl rfl rfl rfl rfl (SL.Pure.eqNil rfl rfl rfl Tryz.underlying28) ?_
    refine SL.Ok.op rfl rfl rfl (SL.Pure.pickF rfl rfl rfl) ?_
    refine SL.Ok.nil ?_
    refine SL.Ok.normThen ?_
    refine hK3 _ _ ?_
    refine SL.Ok.condF' rfl (rfl) ?_
    refine SL.Ok.skip' ?_
    refine SL.Ok.normThen ?_
    refine hK2 _ _ ?_
    refine SL.Ok.seq fun K4 hK4 => ?_
    refine SL.Ok.held [0, 1, 2, 3] mixed rfl rfl ?_
    simp only [List.replicate, List.length_cons, List.length_nil, Nat.reduceAdd]
    refine SL.OkH.take 0 rfl rfl rfl rfl (by kernel_rfl) (by kernel_rfl) (by kernel_rfl) rfl (fun _ _ _ h => h) [0, 1, 2, 3] rfl rfl (SL.Pure.move rfl rfl) ?_
    refine SL.OkH.take 1 rfl rfl rfl rfl (by kernel_rfl) (by kernel_rfl) (by kernel_rfl) rfl (fun _ _ _ h => h) [0, 1, 2, 3] rfl rfl (SL.Pure.nilCheck rfl rfl) ?_
    refine SL.OkH.take 2 rfl rfl rfl rfl (by kernel_rfl) (by kernel_rfl) (by kernel_rfl) rfl (fun _ _ _ h => h) [0, 1, 2, 3] rfl rfl (SL.Pure.fieldAddr (k := 0) rfl rfl (by kernel_rfl) rfl) ?_
    refine SL.OkH.take 3 rfl rfl rfl rfl (by kernel_rfl) (by kernel_rfl) (by kernel_rfl) rfl (fun _ _ _ h => h) [0, 1, 2, 3] rfl rfl (by first | exact SL.Pure.loadA 0 (k := 32) rfl rfl rfl (by kernel_rfl) rfl (by kernel_rfl) | exact SL.Pure.loadA 1 (k := 32) rfl rfl rfl (by kernel_rfl) rfl (by kernel_rfl) | exact SL.Pure.loadA 2 (k := 32) rfl rfl rfl (by kernel_rfl) rfl (by kernel_rfl) | exact SL.Pure.loadA 3 (k := 32) rfl rfl rfl (by kernel_rfl) rfl (by kernel_rfl)) ?_
    refine SL.OkH.take 4 rfl rfl rfl rfl (by kernel_rfl) (by kernel_rfl) (by kernel_rfl) rfl (fun _ _ _ h => h) [0, 1, 2, 3] rfl rfl (SL.Pure.move rfl rfl) ?_
    refine SL.OkH.take 5 rfl rfl rfl rfl (by kernel_rfl) (by kernel_rfl) (by kernel_rfl) rfl (fun _ _ _ h => h) [0, 1, 2, 3] rfl rfl (SL.Pure.nilCheck rfl rfl) ?_
    refine SL.OkH.take 6 rfl rfl rfl rfl (by kernel_rfl) (by kernel_rfl) (by kernel_rfl) rfl (fun _ _ _ h => h) [0, 1, 2, 3] rfl rfl (SL.Pure.fieldAddr (k := 0) rfl rfl (by kernel_rfl) rfl) ?_
    refine SL.OkH.take 7 rfl rfl rfl rfl (by kernel_rfl) (by kernel_rfl) (by kernel_rfl) rfl (fun _ _ _ h => h) [0, 1, 2, 3] rfl rfl (by first | exact SL.Pure.loadA 0 (k := 32) rfl rfl rfl (by kernel_rfl) rfl (by kernel_rfl) | exact SL.Pure.loadA 1 (k := 32) rfl rfl rfl (by kernel_rfl) rfl (by kernel_rfl) | exact SL.Pure.loadA 2 (k := 32) rfl rfl rfl (by kernel_rfl) rfl (by kernel_rfl) | exact SL.Pure.loadA 3 (k := 32) rfl rfl rfl (by kernel_rfl) rfl (by kernel_rfl)) ?_
    refine SL.OkH.take 8 rfl rfl rfl rfl (by kernel_rfl) (by kernel_rfl) (by kernel_rfl) rfl (fun _ _ _ h => h) [0, 1, 2, 3] rfl rfl (SL.Pure.eqB rfl rfl rfl Tryz.underlying23 Tryz.underlying5 (by kernel_rfl) (by kernel_rfl)) ?_
    refine SL.OkH.take 9 rfl rfl rfl rfl (by kernel_rfl) (by kernel_rfl) (by kernel_rfl) rfl (fun _ _ _ h => h) [0, 1, 2, 3] rfl rfl (SL.Pure.move rfl rfl) ?_
    refine SL.OkH.setT (d := 26) rfl (by simp [h1]) ?_
    refine SL.OkH.takeG 10 rfl rfl rfl rfl rfl rfl rfl rfl (by kernel_rfl) (by kernel_rfl) (by kernel_rfl) rfl (fun _ _ _ h => h) [0, 1, 2, 3] rfl rfl (SL.Pure.move rfl rfl) ?_
    refine SL.OkH.takeG 11 rfl rfl rfl rfl rfl rfl rfl rfl (by kernel_rfl) (by kernel_rfl) (by kernel_rfl) rfl (fun _ _ _ h => h) [0, 1, 2, 3] rfl rfl (SL.Pure.nilCheck rfl rfl) ?_
    refine SL.OkH.takeG 12 rfl rfl rfl rfl rfl rfl rfl rfl (by kernel_rfl) (by kernel_rfl) (by kernel_rfl) rfl (fun _ _ _ h => h) [0, 1, 2, 3] rfl rfl (SL.Pure.fieldAddr (k := 32) rfl rfl (by kernel_rfl) rfl) ?_
    refine SL.OkH.takeG 13 rfl rfl rfl rfl rfl rfl rfl rfl (by kernel_rfl) (by kernel_rfl) (by kernel_rfl) rfl (fun _ _ _ h => h) [0, 1, 2, 3] rfl rfl (by first | exact SL.Pure.load1 0 rfl rfl rfl rfl (by kernel_rfl) | exact SL.Pure.load1 1 rfl rfl rfl rfl (by kernel_rfl) | exact SL.Pure.load1 2 rfl rfl rfl rfl (by kernel_rfl) | exact SL.Pure.load1 3 rfl rfl rfl rfl (by kernel_rfl)) ?_
    refine SL.OkH.takeG 14 rfl rfl rfl rfl rfl rfl rfl rfl (by kernel_rfl) (by kernel_rfl) (by kernel_rfl) rfl (fun _ _ _ h => h) [0, 1, 2, 3] rfl rfl (SL.Pure.move rfl rfl) ?_
    refine SL.OkH.takeG 15 rfl rfl rfl rfl rfl rfl rfl rfl (by kernel_rfl) (by kernel_rfl) (by kernel_rfl) rfl (fun _ _ _ h => h) [0, 1, 2, 3] rfl rfl (SL.Pure.nilCheck rfl rfl) ?_
    refine SL.OkH.takeG 16 rfl rfl rfl rfl rfl rfl rfl rfl (by kernel_rfl) (by kernel_rfl) (by kernel_rfl) rfl (fun _ _ _ h => h) [0, 1, 2, 3] rfl rfl (SL.Pure.fieldAddr (k := 32) rfl rfl (by kernel_rfl) rfl) ?_
    refine SL.OkH.takeG 17 rfl rfl rfl rfl rfl rfl rfl rfl (by kernel_rfl) (by kernel_rfl) (by kernel_rfl) rfl (fun _ _ _ h => h) [0, 1, 2, 3] rfl rfl (by first | exact SL.Pure.load1 0 rfl rfl rfl rfl (by kernel_rfl) | exact SL.Pure.load1 1 rfl rfl rfl rfl (by kernel_rfl) | exact SL.Pure.load1 2 rfl rfl rfl rfl (by kernel_rfl) | exact SL.Pure.load1 3 rfl rfl rfl rfl (by kernel_rfl)) ?_
    refine SL.OkH.takeG 18 rfl rfl rfl rfl rfl rfl rfl rfl (by kernel_rfl) (by kernel_rfl) (by kernel_rfl) rfl (fun _ _ _ h => h) [0, 1, 2, 3] rfl rfl (SL.Pure.eqi rfl rfl rfl) ?_
    refine SL.OkH.take 19 rfl rfl rfl rfl (by kernel_rfl) (by kernel_rfl) (by kernel_rfl) rfl (fun _ _ _ h => h) [0, 1, 2, 3] rfl rfl (SL.Pure.pickT rfl rfl rfl) ?_
    refine SL.OkH.take 20 rfl rfl rfl rfl (by kernel_rfl) (by kernel_rfl) (by kernel_rfl) rfl (fun _ _ _ h => h) [0, 1, 2, 3] rfl rfl (SL.Pure.move rfl rfl) ?_
    refine SL.OkH.setT (d := 37) rfl (by simp [h2]) ?_
    refine SL.OkH.takeG 21 rfl rfl rfl rfl rfl rfl rfl rfl (by kernel_rfl) (by kernel_rfl) (by kernel_rfl) rfl (fun _ _ _ h => h) [0, 1, 2, 3] rfl rfl (SL.Pure.move rfl rfl) ?_
    refine SL.OkH.takeG 22 rfl rfl rfl rfl rfl rfl rfl rfl (by kernel_rfl) (by kernel_rfl) (by kernel_rfl) rfl (fun _ _ _ h => h) [0, 1, 2, 3] rfl rfl (SL.Pure.nilCheck rfl rfl) ?_
    refine SL.OkH.takeG 23 rfl rfl rfl rfl rfl rfl rfl rfl (by kernel_rfl) (by kernel_rfl) (by kernel_rfl) rfl (fun _ _ _ h => h) [0, 1, 2, 3] rfl rfl (SL.Pure.fieldAddr (k := 35) rfl rfl (by kernel_rfl) rfl) ?_
    refine SL.OkH.takeG 24 rfl rfl rfl rfl rfl rfl rfl rfl (by kernel_rfl) (by kernel_rfl) (by kernel_rfl) rfl (fun _ _ _ h => h) [0, 1, 2, 3] rfl rfl (by first | exact SL.Pure.load1 0 rfl rfl rfl rfl (by kernel_rfl) | exact SL.Pure.load1 1 rfl rfl rfl rfl (by kernel_rfl) | exact SL.Pure.load1 2 rfl rfl rfl rfl (by kernel_rfl) | exact SL.Pure.load1 3 rfl rfl rfl rfl (by kernel_rfl)) ?_
    refine SL.OkH.takeG 25 rfl rfl rfl rfl rfl rfl rfl rfl (by kernel_rfl) (by kernel_rfl) (by kernel_rfl) rfl (fun _ _ _ h => h) [0, 1, 2, 3] rfl rfl (SL.Pure.move rfl rfl) ?_
    refine SL.OkH.takeG 26 rfl rfl rfl rfl rfl rfl rfl rfl (by kernel_rfl) (by kernel_rfl) (by kernel_rfl) rfl (fun _ _ _ h => h) [0, 1, 2, 3] rfl rfl (SL.Pure.nilCheck rfl rfl) ?_
    refine SL.OkH.takeG 27 rfl rfl rfl rfl rfl rfl rfl rfl (by kernel_rfl) (by kernel_rfl) (by kernel_rfl) rfl (fun _ _ _ h => h) [0, 1, 2, 3] rfl rfl (SL.Pure.fieldAddr (k := 35) rfl rfl (by kernel_rfl) rfl) ?_
    refine SL.OkH.takeG 28 rfl rfl rfl rfl rfl rfl rfl rfl (by kernel_rfl) (by kernel_rfl) (by kernel_rfl) rfl (fun _ _ _ h => h) [0, 1, 2, 3] rfl rfl (by first | exact SL.Pure.load1 0 rfl rfl rfl rfl (by kernel_rfl) | exact SL.Pure.load1 1 rfl rfl rfl rfl (by kernel_rfl) | exact SL.Pure.load1 2 rfl rfl rfl rfl (by kernel_rfl) | exact SL.Pure.load1 3 rfl rfl rfl rfl (by kernel_rfl)) ?_
    refine SL.OkH.takeG 29 rfl rfl rfl rfl rfl rfl rfl rfl (by kernel_rfl) (by kernel_rfl) (by kernel_rfl) rfl (fun _ _ _ h => h) [0, 1, 2, 3] rfl rfl (SL.Pure.eqBool rfl rfl rfl Tryz.underlying4) ?_
    refine SL.OkH.take 30 rfl rfl rfl rfl (by kernel_rfl) (by kernel_rfl) (by kernel_rfl) rfl (fun _ _ _ h => h) [0, 1, 2, 3] rfl rfl (SL.Pure.pickT rfl rfl rfl) ?_
    refine SL.OkH.take 31 rfl rfl rfl rfl (by kernel_rfl) (by kernel_rfl) (by kernel_rfl) rfl (fun _ _ _ h => h) [0, 1, 2, 3] rfl rfl (SL.Pure.move rfl rfl) ?_
    refine SL.OkH.setF (d := 48) rfl (by simp [h3]) ?_
    refine SL.OkH.takeS 32 rfl rfl rfl rfl rfl rfl rfl rfl (by kernel_rfl) (by kernel_rfl) (by kernel_rfl) rfl (fun _ _ _ h => h) [0, 1, 2, 3] rfl rfl ?_
    refine SL.OkH.takeS 33 rfl rfl rfl rfl rfl rfl rfl rfl (by kernel_rfl) (by kernel_rfl) (by kernel_rfl) rfl (fun _ _ _ h => h) [0, 1, 2, 3] rfl rfl ?_
    refine SL.OkH.takeS 34 rfl rfl rfl rfl rfl rfl rfl rfl (by kernel_rfl) (by kernel_rfl) (by kernel_rfl) rfl (fun _ _ _ h => h) [0, 1, 2, 3] rfl rfl ?_
    refine SL.OkH.takeS 36 rfl rfl rfl rfl rfl rfl rfl rfl (by kernel_rfl) (by kernel_rfl) (by kernel_rfl) rfl (fun _ _ _ h => h) [0, 1, 2, 3] rfl rfl ?_
    refine SL.OkH.takeS 37 rfl rfl rfl rfl rfl rfl rfl rfl (by kernel_rfl) (by kernel_rfl) (by kernel_rfl) rfl (fun _ _ _ h => h) [0, 1, 2, 3] rfl rfl ?_
    refine SL.OkH.takeS 38 rfl rfl rfl rfl rfl rfl rfl rfl (by kernel_rfl) (by kernel_rfl) (by kernel_rfl) rfl (fun _ _ _ h => h) [0, 1, 2, 3] rfl rfl ?_
    refine SL.OkH.takeS 35 rfl rfl rfl rfl rfl rfl rfl rfl (by kernel_rfl) (by kernel_rfl) (by kernel_rfl) rfl (fun _ _ _ h => h) [0, 1, 2, 3] rfl rfl ?_
    refine SL.OkH.takeS 39 rfl rfl rfl rfl rfl rfl rfl rfl (by kernel_rfl) (by kernel_rfl) (by kernel_rfl) rfl (fun _ _ _ h => h) [0, 1, 2, 3] rfl rfl ?_
    refine SL.OkH.takeS 40 rfl rfl rfl rfl rfl rfl rfl rfl (by kernel_rfl) (by kernel_rfl) (by kernel_rfl) rfl (fun _ _ _ h => h) [0, 1, 2, 3] rfl rfl ?_
    refine SL.OkH.take 41 rfl rfl rfl rfl (by kernel_rfl) (by kernel_rfl) (by kernel_rfl) rfl (fun _ _ _ h => h) [0, 1, 2, 3] rfl rfl (SL.Pure.pickF rfl rfl rfl) ?_
    refine SL.OkH.take 42 rfl rfl rfl rfl (by kernel_rfl) (by kernel_rfl) (by kernel_rfl) rfl (fun _ _ _ h => h) [0, 1, 2, 3] rfl rfl (SL.Pure.assign rfl rfl) ?_
    refine SL.OkH.done (by kernel_rfl) ?_
    refine SL.Ok.normThen ?_
    refine hK4 _ _ ?_
    refine SL.Ok.ret SL.retHere (SL.resL rfl (.cons (.tmp rfl) .nil) rfl) (fun w' hM' hK' => ?_)
    exact ⟨(), trivial, rfl, hK', hM'⟩
  have hf : eqR r s = decide (r.t = s.t) := by simp [eqR, h1, h2, h3]
  rw [hf]
  refine SL.calls_ok (n := 59) (W := (blocksOf (rmem b r x ++ rmem d s y))) (m := (rmem b r x ++ rmem d s y)) Tryz.func17 rfl Tryz.ntmps17 rfl hm ?_
  simp only [SL.enum, Nat.reduceAdd]
  refine SL.Ok.seq fun K1 hK1 => ?_
  refine SL.Ok.region ?_
  refine SL.Ok.op rfl rfl rfl (SL.Pure.assign rfl rfl) ?_
  refine SL.Ok.nil ?_
  refine SL.Ok.normThen ?_
  refine hK1 _ _ ?_
  refine SL.Ok.seq fun K2 hK2 => ?_
  refine SL.Ok.seq fun K3 hK3 => ?_
  refine SL.Ok.region ?_
  refine SL.Ok.op rfl rfl rfl (SL.Pure.move rfl rfl) ?_
  refine SL.Ok.op rfl rfl rfl (SL.Pure.eqNil rfl rfl rfl Tryz.underlying28) ?_
  refine SL.Ok.op rfl rfl rfl (SL.Pure.move rfl rfl) ?_
  refine SL.Ok.setF (d := 7) rfl (rfl) ?_
  refine SL.Ok.opG rfl rfl rfl rfl rfl rfl rfl (SL.Pure.move rfl rfl) ?_
  refine SL.Ok.opG rfl rfl rfl rfl rfl rfl rfl (SL.Pure.eqNil rfl rfl rfl Tryz.underlying28) ?_
  refine SL.Ok.op rfl rfl rfl (SL.Pure.pickF rfl rfl rfl) ?_
  refine SL.Ok.nil ?_
  refine SL.Ok.normThen ?_
  refine hK3 _ _ ?_
  refine SL.Ok.condF' rfl (rfl) ?_
  refine SL.Ok.skip' ?_
  refine SL.Ok.normThen ?_
  refine hK2 _ _ ?_
  refine SL.Ok.seq fun K4 hK4 => ?_
  refine SL.Ok.held [0, 1, 2, 3] mixed rfl rfl ?_
  simp only [List.replicate, List.length_cons, List.length_nil, Nat.reduceAdd]
  refine SL.OkH.take 0 rfl rfl rfl rfl (by kernel_rfl) (by kernel_rfl) (by kernel_rfl) rfl (fun _ _ _ h => h) [0, 1, 2, 3] rfl rfl (SL.Pure.move rfl rfl) ?_
  refine SL.OkH.take 1 rfl rfl rfl rfl (by kernel_rfl) (by kernel_rfl) (by kernel_rfl) rfl (fun _ _ _ h => h) [0, 1, 2, 3] rfl rfl (SL.Pure.nilCheck rfl rfl) ?_
  refine SL.OkH.take 2 rfl rfl rfl rfl (by kernel_rfl) (by kernel_rfl) (by kernel_rfl) rfl (fun _ _ _ h => h) [0, 1, 2, 3] rfl rfl (SL.Pure.fieldAddr (k := 0) rfl rfl (by kernel_rfl) rfl) ?_
  refine SL.OkH.take 3 rfl rfl rfl rfl (by kernel_rfl) (by kernel_rfl) (by kernel_rfl) rfl (fun _ _ _ h => h) [0, 1, 2, 3] rfl rfl (by first | exact SL.Pure.loadA 0 (k := 32) rfl rfl rfl (by kernel_rfl) rfl (by kernel_rfl) | exact SL.Pure.loadA 1 (k := 32) rfl rfl rfl (by kernel_rfl) rfl (by kernel_rfl) | exact SL.Pure.loadA 2 (k := 32) rfl rfl rfl (by kernel_rfl) rfl (by kernel_rfl) | exact SL.Pure.loadA 3 (k := 32) rfl rfl rfl (by kernel_rfl) rfl (by kernel_rfl)) ?_
  refine SL.OkH.take 4 rfl rfl rfl rfl (by kernel_rfl) (by kernel_rfl) (by kernel_rfl) rfl (fun _ _ _ h => h) [0, 1, 2, 3] rfl rfl (SL.Pure.move rfl rfl) ?_
  refine SL.OkH.take 5 rfl rfl rfl rfl (by kernel_rfl) (by kernel_rfl) (by kernel_rfl) rfl (fun _ _ _ h => h) [0, 1, 2, 3] rfl rfl (SL.Pure.nilCheck rfl rfl) ?_
  refine SL.OkH.take 6 rfl rfl rfl rfl (by kernel_rfl) (by kernel_rfl) (by kernel_rfl) rfl (fun _ _ _ h => h) [0, 1, 2, 3] rfl rfl (SL.Pure.fieldAddr (k := 0) rfl rfl (by kernel_rfl) rfl) ?_
  refine SL.OkH.take 7 rfl rfl rfl rfl (by kernel_rfl) (by kernel_rfl) (by kernel_rfl) rfl (fun _ _ _ h => h) [0, 1, 2, 3] rfl rfl (by first | exact SL.Pure.loadA 0 (k := 32) rfl rfl rfl (by kernel_rfl) rfl (by kernel_rfl) | exact SL.Pure.loadA 1 (k := 32) rfl rfl rfl (by kernel_rfl) rfl (by kernel_rfl) | exact SL.Pure.loadA 2 (k := 32) rfl rfl rfl (by kernel_rfl) rfl (by kernel_rfl) | exact SL.Pure.loadA 3 (k := 32) rfl rfl rfl (by kernel_rfl) rfl (by kernel_rfl)) ?_
  refine SL.OkH.take 8 rfl rfl rfl rfl (by kernel_rfl) (by kernel_rfl) (by kernel_rfl) rfl (fun _ _ _ h => h) [0, 1, 2, 3] rfl rfl (SL.Pure.eqB rfl rfl rfl Tryz.underlying23 Tryz.underlying5 (by kernel_rfl) (by kernel_rfl)) ?_
  refine SL.OkH.take 9 rfl rfl rfl rfl (by kernel_rfl) (by kernel_rfl) (by kernel_rfl) rfl (fun _ _ _ h => h) [0, 1, 2, 3] rfl rfl (SL.Pure.move rfl rfl) ?_
  refine SL.OkH.setT (d := 26) rfl (by simp [h1]) ?_
  refine SL.OkH.takeG 10 rfl rfl rfl rfl rfl rfl rfl rfl (by kernel_rfl) (by kernel_rfl) (by kernel_rfl) rfl (fun _ _ _ h => h) [0, 1, 2, 3] rfl rfl (SL.Pure.move rfl rfl) ?_
  refine SL.OkH.takeG 11 rfl rfl rfl rfl rfl rfl rfl rfl (by kernel_rfl) (by kernel_rfl) (by kernel_rfl) rfl (fun _ _ _ h => h) [0, 1, 2, 3] rfl rfl (SL.Pure.nilCheck rfl rfl) ?_
  refine SL.OkH.takeG 12 rfl rfl rfl rfl rfl rfl rfl rfl (by kernel_rfl) (by kernel_rfl) (by kernel_rfl) rfl (fun _ _ _ h => h) [0, 1, 2, 3] rfl rfl (SL.Pure.fieldAddr (k := 32) rfl rfl (by kernel_rfl) rfl) ?_
  refine SL.OkH.takeG 13 rfl rfl rfl rfl rfl rfl rfl rfl (by kernel_rfl) (by kernel_rfl) (by kernel_rfl) rfl (fun _ _ _ h => h) [0, 1, 2, 3] rfl rfl (by first | exact SL.Pure.load1 0 rfl rfl rfl rfl (by kernel_rfl) | exact SL.Pure.load1 1 rfl rfl rfl rfl (by kernel_rfl) | exact SL.Pure.load1 2 rfl rfl rfl rfl (by kernel_rfl) | exact SL.Pure.load1 3 rfl rfl rfl rfl (by kernel_rfl)) ?_
  refine SL.OkH.takeG 14 rfl rfl rfl rfl rfl rfl rfl rfl (by kernel_rfl) (by kernel_rfl) (by kernel_rfl) rfl (fun _ _ _ h => h) [0, 1, 2, 3] rfl rfl (SL.Pure.move rfl rfl) ?_
  refine SL.OkH.takeG 15 rfl rfl rfl rfl rfl rfl rfl rfl (by kernel_rfl) (by kernel_rfl) (by kernel_rfl) rfl (fun _ _ _ h => h) [0, 1, 2, 3] rfl rfl (SL.Pure.nilCheck rfl rfl) ?_
  refine SL.OkH.takeG 16 rfl rfl rfl rfl rfl rfl rfl rfl (by kernel_rfl) (by kernel_rfl) (by kernel_rfl) rfl (fun _ _ _ h => h) [0, 1, 2, 3] rfl rfl (SL.Pure.fieldAddr (k := 32) rfl rfl (by kernel_rfl) rfl) ?_
  refine SL.OkH.takeG 17 rfl rfl rfl rfl rfl rfl rfl rfl (by kernel_rfl) (by kernel_rfl) (by kernel_rfl) rfl (fun _ _ _ h => h) [0, 1, 2, 3] rfl rfl (by first | exact SL.Pure.load1 0 rfl rfl rfl rfl (by kernel_rfl) | exact SL.Pure.load1 1 rfl rfl rfl rfl (by kernel_rfl) | exact SL.Pure.load1 2 rfl rfl rfl rfl (by kernel_rfl) | exact SL.Pure.load1 3 rfl rfl rfl rfl (by kernel_rfl)) ?_
  refine SL.OkH.takeG 18 rfl rfl rfl rfl rfl rfl rfl rfl (by kernel_rfl) (by kernel_rfl) (by kernel_rfl) rfl (fun _ _ _ h => h) [0, 1, 2, 3] rfl rfl (SL.Pure.eqi rfl rfl rfl) ?_
  refine SL.OkH.take 19 rfl rfl rfl rfl (by kernel_rfl) (by kernel_rfl) (by kernel_rfl) rfl (fun _ _ _ h => h) [0, 1, 2, 3] rfl rfl (SL.Pure.pickT rfl rfl rfl) ?_
  refine SL.OkH.take 20 rfl rfl rfl rfl (by kernel_rfl) (by kernel_rfl) (by kernel_rfl) rfl (fun _ _ _ h => h) [0, 1, 2, 3] rfl rfl (SL.Pure.move rfl rfl) ?_
  refine SL.OkH.setT (d := 37) rfl (by simp [h2]) ?_
  refine SL.OkH.takeG 21 rfl rfl rfl rfl rfl rfl rfl rfl (by kernel_rfl) (by kernel_rfl) (by kernel_rfl) rfl (fun _ _ _ h => h) [0, 1, 2, 3] rfl rfl (SL.Pure.move rfl rfl) ?_
  refine SL.OkH.takeG 22 rfl rfl rfl rfl rfl rfl rfl rfl (by kernel_rfl) (by kernel_rfl) (by kernel_rfl) rfl (fun _ _ _ h => h) [0, 1, 2, 3] rfl rfl (SL.Pure.nilCheck rfl rfl) ?_
  refine SL.OkH.takeG 23 rfl rfl rfl rfl rfl rfl rfl rfl (by kernel_rfl) (by kernel_rfl) (by kernel_rfl) rfl (fun _ _ _ h => h) [0, 1, 2, 3] rfl rfl (SL.Pure.fieldAddr (k := 35) rfl rfl (by kernel_rfl) rfl) ?_
  refine SL.OkH.takeG 24 rfl rfl rfl rfl rfl rfl rfl rfl (by kernel_rfl) (by kernel_rfl) (by kernel_rfl) rfl (fun _ _ _ h => h) [0, 1, 2, 3] rfl rfl (by first | exact SL.Pure.load1 0 rfl rfl rfl rfl (by kernel_rfl) | exact SL.Pure.load1 1 rfl rfl rfl rfl (by kernel_rfl) | exact SL.Pure.load1 2 rfl rfl rfl rfl (by kernel_rfl) | exact SL.Pure.load1 3 rfl rfl rfl rfl (by kernel_rfl)) ?_
  refine SL.OkH.takeG 25 rfl rfl rfl rfl rfl rfl rfl rfl (by kernel_rfl) (by kernel_rfl) (by kernel_rfl) rfl (fun _ _ _ h => h) [0, 1, 2, 3] rfl rfl (SL.Pure.move rfl rfl) ?_
  refine SL.OkH.takeG 26 rfl rfl rfl rfl rfl rfl rfl rfl (by kernel_rfl) (by kernel_rfl) (by kernel_rfl) rfl (fun _ _ _ h => h) [0, 1, 2, 3] rfl rfl (SL.Pure.nilCheck rfl rfl) ?_
  refine SL.OkH.takeG 27 rfl rfl rfl rfl rfl rfl rfl rfl (by kernel_rfl) (by kernel_rfl) (by kernel_rfl) rfl (fun _ _ _ h => h) [0, 1, 2, 3] rfl rfl (SL.Pure.fieldAddr (k := 35) rfl rfl (by kernel_rfl) rfl) ?_
  refine SL.OkH.takeG 28 rfl rfl rfl rfl rfl rfl rfl rfl (by kernel_rfl) (by kernel_rfl) (by kernel_rfl) rfl (fun _ _ _ h => h) [0, 1, 2, 3] rfl rfl (by first | exact SL.Pure.load1 0 rfl rfl rfl rfl (by kernel_rfl) | exact SL.Pure.load1 1 rfl rfl rfl rfl (by kernel_rfl) | exact SL.Pure.load1 2 rfl rfl rfl rfl (by kernel_rfl) | exact SL.Pure.load1 3 rfl rfl rfl rfl (by kernel_rfl)) ?_
  refine SL.OkH.takeG 29 rfl rfl rfl rfl rfl rfl rfl rfl (by kernel_rfl) (by kernel_rfl) (by kernel_rfl) rfl (fun _ _ _ h => h) [0, 1, 2, 3] rfl rfl (SL.Pure.eqBool rfl rfl rfl Tryz.underlying4) ?_
  refine SL.OkH.take 30 rfl rfl rfl rfl (by kernel_rfl) (by kernel_rfl) (by kernel_rfl) rfl (fun _ _ _ h => h) [0, 1, 2, 3] rfl rfl (SL.Pure.pickT rfl rfl rfl) ?_
  refine SL.OkH.take 31 rfl rfl rfl rfl (by kernel_rfl) (by kernel_rfl) (by kernel_rfl) rfl (fun _ _ _ h => h) [0, 1, 2, 3] rfl rfl (SL.Pure.move rfl rfl) ?_
  refine SL.OkH.setT (d := 48) rfl (by simp [h3]) ?_
  refine SL.OkH.takeG 32 rfl rfl rfl rfl rfl rfl rfl rfl (by kernel_rfl) (by kernel_rfl) (by kernel_rfl) rfl (fun _ _ _ h => h) [0, 1, 2, 3] rfl rfl (SL.Pure.move rfl rfl) ?_
  refine SL.OkH.takeG 33 rfl rfl rfl rfl rfl rfl rfl rfl (by kernel_rfl) (by kernel_rfl) (by kernel_rfl) rfl (fun _ _ _ h => h) [0, 1, 2, 3] rfl rfl (SL.Pure.nilCheck rfl rfl) ?_
  refine SL.OkH.takeG 34 rfl rfl rfl rfl rfl rfl rfl rfl (by kernel_rfl) (by kernel_rfl) (by kernel_rfl) rfl (fun _ _ _ h => h) [0, 1, 2, 3] rfl rfl (SL.Pure.fieldAddr (k := 33) rfl rfl (by kernel_rfl) rfl) ?_
  refine SL.OkH.takeG 36 rfl rfl rfl rfl rfl rfl rfl rfl (by kernel_rfl) (by kernel_rfl) (by kernel_rfl) rfl (fun _ _ _ h => h) [0, 1, 2, 3] rfl rfl (SL.Pure.move rfl rfl) ?_
  refine SL.OkH.takeG 37 rfl rfl rfl rfl rfl rfl rfl rfl (by kernel_rfl) (by kernel_rfl) (by kernel_rfl) rfl (fun _ _ _ h => h) [0, 1, 2, 3] rfl rfl (SL.Pure.nilCheck rfl rfl) ?_
  refine SL.OkH.takeG 38 rfl rfl rfl rfl rfl rfl rfl rfl (by kernel_rfl) (by kernel_rfl) (by kernel_rfl) rfl (fun _ _ _ h => h) [0, 1, 2, 3] rfl rfl (SL.Pure.fieldAddr (k := 33) rfl rfl (by kernel_rfl) rfl) ?_
  refine SL.OkH.effG 35 rfl rfl rfl rfl rfl rfl (by kernel_rfl) rfl [0, 1, 2, 3] (fun _ => rfl) rfl (SL.Eff.at rfl (SL.Eff.call [0, 1] [2, 3] rfl rfl (by kernel_rfl) rfl rfl rfl rfl (fun w hM hK => bld_string b _ _ (rpre r.id r.size) (rpost r.fin) x.p x.a x.c r.t hx.2 w (hM.sel [0, 1] rfl).own))) ?_
  intro _ _
  try simp only [SL.setN, SL.putD, SL.selM, SL.nth, List.cons_append, List.nil_append]
  refine SL.OkH.effG 39 rfl rfl rfl rfl rfl rfl (by kernel_rfl) rfl [2, 3, 0, 1] (fun _ => rfl) rfl (SL.Eff.at rfl (SL.Eff.call [2, 3] [0, 1] rfl rfl (by kernel_rfl) rfl rfl rfl rfl (fun w hM hK => bld_string d _ _ (rpre s.id s.size) (rpost s.fin) y.p y.a y.c s.t hy.2 w (hM.sel [2, 3] rfl).own))) ?_
  intro _ _
  try simp only [SL.setN, SL.putD, SL.selM, SL.nth, List.cons_append, List.nil_append]
  refine SL.OkH.takeG 40 rfl rfl rfl rfl rfl rfl rfl rfl (by kernel_rfl) (by kernel_rfl) (by kernel_rfl) rfl (fun _ _ _ h => h) [2, 3, 0, 1] rfl rfl (SL.Pure.eqS rfl rfl rfl) ?_
  refine SL.OkH.take 41 rfl rfl rfl rfl (by kernel_rfl) (by kernel_rfl) (by kernel_rfl) rfl (fun _ _ _ h => h) [2, 3, 0, 1] rfl rfl (SL.Pure.pickT rfl rfl rfl) ?_
  refine SL.OkH.take 42 rfl rfl rfl rfl (by kernel_rfl) (by kernel_rfl) (by kernel_rfl) rfl (fun _ _ _ h => h) [2, 3, 0, 1] rfl rfl (SL.Pure.assign rfl rfl) ?_
  refine SL.OkH.done (by kernel_rfl) ?_
  refine SL.Ok.normThen ?_
  refine hK4 _ _ ?_
  refine SL.Ok.ret SL.retHere (SL.resL rfl (.cons (.tmp rfl) .nil) rfl) (fun w' hM' hK' => ?_)
  exact ⟨(), trivial, rfl, hK', hM'.sel [2, 3, 0, 1] rfl⟩

/-! ### The sender -/
structure SS where
  id : B 32
  t : List UInt8
  chunk : Int
  sent : Int
  fin : Bool
abbrev sseg (s : SS) : List Seg := [s.id.seg, Seg.one (str s.t) rfl, Seg.one (.int .i64 s.chunk) rfl, Seg.one (.int .i64 s.sent) rfl, Seg.one (.bool s.fin) rfl]
abbrev smem (b : Nat) (s : SS) : List Res := [.blk b (.cells (flat (sseg s)) 48 (0, 0))]

theorem newS_ok (id : B 32) (t : List UInt8) (chunk k : Int) (w : World) (ht : t.length ≤ 65536) (h1 : 1 ≤ chunk) (h2 : chunk ≤ 4096) (h3 : 0 ≤ k) (h4 : k ≤ t.length) :
    Calls Tryz.prog 18 [.agg (flat [id.seg]), str t, .int .i64 chunk, .int .i64 k].toArray w fun e w' => ∃ b : Nat, True ∧ e = .returned (.tuple #[.pointer (some ⟨b, 0, none⟩), .int .i64 0]) ∧ Post w (blocksOf []) (smem b ⟨id, t, chunk, k, false⟩) w' := by
  refine SL.calls_ok (n := 37) (W := (blocksOf [])) (m := []) Tryz.func18 rfl Tryz.ntmps18 rfl (SL.Mem.nil _ _ _) ?_
  simp only [SL.enum, Nat.reduceAdd]
  refine SL.Ok.seq fun K1 hK1 => ?_
  refine SL.Ok.region ?_
  refine SL.Ok.eff rfl (SL.Eff.box _ rfl rfl rfl rfl rfl) ?_
  intro b4 _
  try simp only [SL.setN, SL.putD, SL.selM, SL.nth, List.cons_append, List.nil_append]
  refine SL.Ok.op rfl rfl rfl (SL.Pure.assign rfl rfl) ?_
  refine SL.Ok.op rfl rfl rfl (SL.Pure.assign rfl rfl) ?_
  refine SL.Ok.nil ?_
  refine SL.Ok.normThen ?_
  refine hK1 _ _ ?_
  refine SL.Ok.seq fun K2 hK2 => ?_
  refine SL.Ok.block ?_
  refine SL.Ok.seq fun K3 hK3 => ?_
  refine SL.Ok.region ?_
  refine SL.Ok.op rfl rfl rfl (SL.Pure.move rfl rfl) ?_
  refine SL.Ok.op rfl rfl rfl (SL.Pure.lenS rfl rfl rfl Tryz.underlying9) ?_
  refine SL.Ok.op rfl rfl rfl (SL.Pure.gtr rfl rfl rfl) ?_
  refine SL.Ok.op rfl rfl rfl (SL.Pure.assign rfl rfl) ?_
  refine SL.Ok.nil ?_
  refine SL.Ok.normThen ?_
  refine hK3 _ _ ?_
  refine SL.Ok.condF' rfl (by simp; omega) ?_
  refine SL.Ok.seq fun K4 hK4 => ?_
  refine SL.Ok.region ?_
  refine SL.Ok.op rfl rfl rfl (SL.Pure.move rfl rfl) ?_
  refine SL.Ok.op rfl rfl rfl (SL.Pure.lss rfl rfl rfl) ?_
  refine SL.Ok.op rfl rfl rfl (SL.Pure.move rfl rfl) ?_
  refine SL.Ok.setF (d := 17) rfl (by simp; omega) ?_
  refine SL.Ok.opG rfl rfl rfl rfl rfl rfl rfl (SL.Pure.move rfl rfl) ?_
  refine SL.Ok.opG rfl rfl rfl rfl rfl rfl rfl (SL.Pure.gtr rfl rfl rfl) ?_
  refine SL.Ok.op rfl rfl rfl (SL.Pure.pickF rfl rfl rfl) ?_
  refine SL.Ok.op rfl rfl rfl (SL.Pure.move rfl rfl) ?_
  refine SL.Ok.setF (d := 21) rfl (by simp; omega) ?_
  refine SL.Ok.opG rfl rfl rfl rfl rfl rfl rfl (SL.Pure.move rfl rfl) ?_
  refine SL.Ok.opG rfl rfl rfl rfl rfl rfl rfl (SL.Pure.lss rfl rfl rfl) ?_
  refine SL.Ok.op rfl rfl rfl (SL.Pure.pickF rfl rfl rfl) ?_
  refine SL.Ok.op rfl rfl rfl (SL.Pure.move rfl rfl) ?_
  refine SL.Ok.setF (d := 25) rfl (by simp; omega) ?_
  refine SL.Ok.opG rfl rfl rfl rfl rfl rfl rfl (SL.Pure.move rfl rfl) ?_
  refine SL.Ok.opG rfl rfl rfl rfl rfl rfl rfl (SL.Pure.move rfl rfl) ?_
  refine SL.Ok.opG rfl rfl rfl rfl rfl rfl rfl (SL.Pure.lenS rfl rfl rfl Tryz.underlying9) ?_
  refine SL.Ok.opG rfl rfl rfl rfl rfl rfl rfl (SL.Pure.gtr rfl rfl rfl) ?_
  refine SL.Ok.op rfl rfl rfl (SL.Pure.pickF rfl rfl rfl) ?_
  refine SL.Ok.op rfl rfl rfl (SL.Pure.assign rfl rfl) ?_
  refine SL.Ok.nil ?_
  refine SL.Ok.normThen ?_
  refine hK4 _ _ ?_
  refine SL.Ok.condF' rfl (by simp; omega) ?_
  refine SL.Ok.skip' ?_
  refine SL.Ok.normBlock ?_
  refine SL.Ok.normThen ?_
  refine hK2 _ _ ?_
  refine SL.Ok.seq fun K5 hK5 => ?_
  refine SL.Ok.region ?_
  refine SL.Ok.op rfl rfl rfl (by first | exact SL.Pure.loadA 0 (k := 32) rfl rfl rfl (by kernel_rfl) rfl (by kernel_rfl)) ?_
  refine SL.Ok.op rfl rfl rfl (SL.Pure.move rfl rfl) ?_
  refine SL.Ok.op rfl rfl rfl (SL.Pure.move rfl rfl) ?_
  refine SL.Ok.op rfl rfl rfl (SL.Pure.move rfl rfl) ?_
  refine SL.Ok.op rfl rfl rfl (SL.Pure.build [(0, 32), (32, 1), (33, 1), (34, 1), (35, 1)] [(B.zero 32).seg, Seg.one (str []) rfl, Seg.one (.int .i64 0) rfl, Seg.one (.int .i64 0) rfl, Seg.one (.bool false) rfl] rfl rfl (.cons .agg (.cons (.one rfl) (.cons (.one rfl) (.cons (.one rfl) .nil)))) (by kernel_rfl) (by kernel_rfl) rfl) ?_
  refine SL.Ok.eff rfl (SL.Eff.box _ rfl rfl rfl rfl rfl) ?_
  intro b36 _
  try simp only [SL.setN, SL.putD, SL.selM, SL.nth, List.cons_append, List.nil_append]
  refine SL.Ok.op rfl rfl rfl (SL.Pure.assign rfl rfl) ?_
  refine SL.Ok.op rfl rfl rfl (SL.Pure.assign rfl rfl) ?_
  refine SL.Ok.nil ?_
  refine SL.Ok.normThen ?_
  refine hK5 _ _ ?_
  refine SL.Ok.ret SL.retHere (SL.resL rfl (.cons (.tmp rfl) (.cons (.tmp rfl) .nil)) rfl) (fun w' hM' hK' => ?_)
  exact ⟨b36, trivial, rfl, hK', hM'.sel [0] rfl⟩

/-- what a sender says, and what it is then -/
def say (s : SS) : SS × List Seg × Bool :=
  if s.fin then (s, cmd 0 [] (B.zero 32) 0 0 0 0 [], false)
  else if s.sent = s.t.length then ({ s with fin := true }, cmd 8 [] s.id 0 0 0 0 [], true)
  else ({ s with sent := min s.t.length (s.sent + s.chunk) }, cmd 7 [] s.id 0 s.sent 0 0 ((s.t.take (min (s.t.length : Int) (s.sent + s.chunk)).toNat).drop s.sent.toNat), true)
def sinv (s : SS) : Prop := s.t.length ≤ 65536 ∧ 1 ≤ s.chunk ∧ s.chunk ≤ 4096 ∧ 0 ≤ s.sent ∧ s.sent ≤ s.t.length

theorem say_c (b : Nat) (s : SS) (hi : sinv s) (w : World) (hm : Mem (blocksOf (smem b s)) w (smem b s) w) :
    Calls Tryz.prog 5 [.pointer (some ⟨b, 0, none⟩)].toArray w fun e w' => ∃ _ : Unit, True ∧ e = .returned (.tuple #[.agg (flat (say s).2.1), .bool (say s).2.2]) ∧ Post w (blocksOf (smem b s)) (smem b (say s).1) w' := by
  obtain ⟨h0, h1, h2, h3, h4⟩ := hi
  by_cases hf : s.fin = true
  · have hs : say s = (s, cmd 0 [] (B.zero 32) 0 0 0 0 [], false) := by simp [say, hf]
    rw [hs]
    refine SL.calls_ok (n := 67) (W := (blocksOf (smem b s))) (m := (smem b s)) Tryz.func5 rfl Tryz.ntmps5 rfl hm ?_
    simp only [SL.enum, Nat.reduceAdd]
    refine SL.Ok.seq fun K1 hK1 => ?_
    refine SL.Ok.region ?_
    refine SL.Ok.eff rfl (SL.Eff.alloc [Seg.one (.int .i64 0) rfl, Seg.one (str []) rfl, (B.zero 32).seg, Seg.one (.int .i64 0) rfl, Seg.one (.int .i64 0) rfl, Seg.one (.int .i64 0) rfl, Seg.one (.int .i64 0) rfl, Seg.one (str []) rfl] rfl rfl rfl (by kernel_rfl)) ?_
    intro b2 _
    try simp only [SL.setN, SL.putD, SL.selM, SL.nth, List.cons_append, List.nil_append]
    refine SL.Ok.op rfl rfl rfl (SL.Pure.assign rfl rfl) ?_
    refine SL.Ok.nil ?_
    refine SL.Ok.normThen ?_
    refine hK1 _ _ ?_
    refine SL.Ok.seq fun K2 hK2 => ?_
    refine SL.Ok.seq fun K3 hK3 => ?_
    refine SL.Ok.region ?_
    refine SL.Ok.op rfl rfl rfl (SL.Pure.move rfl rfl) ?_
    refine SL.Ok.op rfl rfl rfl (SL.Pure.eqNil rfl rfl rfl Tryz.underlying27) ?_
    refine SL.Ok.op rfl rfl rfl (SL.Pure.move rfl rfl) ?_
    refine SL.Ok.setF (d := 7) rfl (rfl) ?_
    refine SL.Ok.opG rfl rfl rfl rfl rfl rfl rfl (SL.Pure.move rfl rfl) ?_
    refine SL.Ok.opG rfl rfl rfl rfl rfl rfl rfl (SL.Pure.nilCheck rfl rfl) ?_
    refine SL.Ok.opG rfl rfl rfl rfl rfl rfl rfl (SL.Pure.fieldAddr (k := 35) rfl rfl (by kernel_rfl) rfl) ?_
    refine SL.Ok.opG rfl rfl rfl rfl rfl rfl rfl (by first | exact SL.Pure.load1 0 rfl rfl rfl rfl (by kernel_rfl) | exact SL.Pure.load1 1 rfl rfl rfl rfl (by kernel_rfl)) ?_
    refine SL.Ok.op rfl rfl rfl (SL.Pure.pickF rfl rfl rfl) ?_
    refine SL.Ok.nil ?_
    refine SL.Ok.normThen ?_
    refine hK3 _ _ ?_
    refine SL.Ok.condT' rfl (hf) ?_
    refine SL.Ok.seq fun K4 hK4 => ?_
    refine SL.Ok.region ?_
    refine SL.Ok.op rfl rfl rfl (SL.Pure.build [(0, 1), (1, 1), (2, 32), (34, 1), (35, 1), (36, 1), (37, 1), (38, 1)] [Seg.one (.int .i64 0) rfl, Seg.one (str []) rfl, (B.zero 32).seg, Seg.one (.int .i64 0) rfl, Seg.one (.int .i64 0) rfl, Seg.one (.int .i64 0) rfl, Seg.one (.int .i64 0) rfl, Seg.one (str []) rfl] rfl rfl .nil (by kernel_rfl) (by kernel_rfl) rfl) ?_
    refine SL.Ok.eff rfl (by first | exact SL.Eff.storeG (k := 39) 0 _ rfl rfl rfl rfl rfl rfl (by kernel_rfl) rfl rfl | exact SL.Eff.storeG (k := 39) 1 _ rfl rfl rfl rfl rfl rfl (by kernel_rfl) rfl rfl) ?_
    intro _ _
    try simp only [SL.setN, SL.putD, SL.selM, SL.nth, List.cons_append, List.nil_append]
    refine SL.Ok.op rfl rfl rfl (SL.Pure.assign rfl rfl) ?_
    refine SL.Ok.nil ?_
    refine SL.Ok.normThen ?_
    refine hK4 _ _ ?_
    refine SL.Ok.ret (SL.retThen SL.retHere) (SL.resL rfl (.cons (SL.RV.cellA 0 (k := 39) rfl rfl (by kernel_rfl) rfl (by kernel_rfl)) (.cons (.tmp rfl) .nil)) rfl) (fun w' hM' hK' => ?_)
    exact ⟨(), trivial, rfl, hK', hM'.sel [1] rfl⟩
  have hf' : s.fin = false := by simpa using hf
  by_cases he : s.sent = s.t.length
  · have hs : say s = ({ s with fin := true }, cmd 8 [] s.id 0 0 0 0 [], true) := by simp [say, hf', he]
    rw [hs]
    refine SL.calls_ok (n := 67) (W := (blocksOf (smem b s))) (m := (smem b s)) Tryz.func5 rfl Tryz.ntmps5 rfl hm ?_
    simp only [SL.enum, Nat.reduceAdd]
    refine SL.Ok.seq fun K1 hK1 => ?_
    refine SL.Ok.region ?_
    refine SL.Ok.eff rfl (SL.Eff.alloc [Seg.one (.int .i64 0) rfl, Seg.one (str []) rfl, (B.zero 32).seg, Seg.one (.int .i64 0) rfl, Seg.one (.int .i64 0) rfl, Seg.one (.int .i64 0) rfl, Seg.one (.int .i64 0) rfl, Seg.one (str []) rfl] rfl rfl rfl (by kernel_rfl)) ?_
    intro b2 _
    try simp only [SL.setN, SL.putD, SL.selM, SL.nth, List.cons_append, List.nil_append]
    refine SL.Ok.op rfl rfl rfl (SL.Pure.assign rfl rfl) ?_
    refine SL.Ok.nil ?_
    refine SL.Ok.normThen ?_
    refine hK1 _ _ ?_
    refine SL.Ok.seq fun K2 hK2 => ?_
    refine SL.Ok.seq fun K3 hK3 => ?_
    refine SL.Ok.region ?_
    refine SL.Ok.op rfl rfl rfl (SL.Pure.move rfl rfl) ?_
    refine SL.Ok.op rfl rfl rfl (SL.Pure.eqNil rfl rfl rfl Tryz.underlying27) ?_
    refine SL.Ok.op rfl rfl rfl (SL.Pure.move rfl rfl) ?_
    refine SL.Ok.setF (d := 7) rfl (rfl) ?_
    refine SL.Ok.opG rfl rfl rfl rfl rfl rfl rfl (SL.Pure.move rfl rfl) ?_
    refine SL.Ok.opG rfl rfl rfl rfl rfl rfl rfl (SL.Pure.nilCheck rfl rfl) ?_
    refine SL.Ok.opG rfl rfl rfl rfl rfl rfl rfl (SL.Pure.fieldAddr (k := 35) rfl rfl (by kernel_rfl) rfl) ?_
    refine SL.Ok.opG rfl rfl rfl rfl rfl rfl rfl (by first | exact SL.Pure.load1 0 rfl rfl rfl rfl (by kernel_rfl) | exact SL.Pure.load1 1 rfl rfl rfl rfl (by kernel_rfl)) ?_
    refine SL.Ok.op rfl rfl rfl (SL.Pure.pickF rfl rfl rfl) ?_
    refine SL.Ok.nil ?_
    refine SL.Ok.normThen ?_
    refine hK3 _ _ ?_
    refine SL.Ok.condF' rfl (hf') ?_
    refine SL.Ok.skip' ?_
    refine SL.Ok.normThen ?_
    refine hK2 _ _ ?_
    refine SL.Ok.seq fun K4 hK4 => ?_
    refine SL.Ok.seq fun K5 hK5 => ?_
    refine SL.Ok.still 9 mixed (by kernel_rfl) rfl rfl (fun wd3 => ?_)
    refine SL.OkS.op rfl rfl rfl (SL.Pure.move rfl rfl) ?_
    refine SL.OkS.op rfl rfl rfl (SL.Pure.nilCheck rfl rfl) ?_
    refine SL.OkS.op rfl rfl rfl (SL.Pure.fieldAddr (k := 34) rfl rfl (by kernel_rfl) rfl) ?_
    refine SL.OkS.op rfl rfl rfl (by first | exact SL.Pure.load1 0 rfl rfl rfl rfl (by kernel_rfl) | exact SL.Pure.load1 1 rfl rfl rfl rfl (by kernel_rfl)) ?_
    refine SL.OkS.op rfl rfl rfl (SL.Pure.move rfl rfl) ?_
    refine SL.OkS.op rfl rfl rfl (SL.Pure.nilCheck rfl rfl) ?_
    refine SL.OkS.op rfl rfl rfl (SL.Pure.fieldAddr (k := 32) rfl rfl (by kernel_rfl) rfl) ?_
    refine SL.OkS.op rfl rfl rfl (by first | exact SL.Pure.load1 0 rfl rfl rfl rfl (by kernel_rfl) | exact SL.Pure.load1 1 rfl rfl rfl rfl (by kernel_rfl)) ?_
    refine SL.OkS.op rfl rfl rfl (SL.Pure.lenS rfl rfl rfl Tryz.underlying9) ?_
    refine SL.OkS.tail ?_
    refine SL.Ok.op rfl rfl rfl (SL.Pure.eqi rfl rfl rfl) ?_
    refine SL.Ok.nil ?_
    refine SL.Ok.normThen ?_
    refine hK5 _ _ ?_
    refine SL.Ok.condT' rfl (by simp [he]) ?_
    refine SL.Ok.seq fun K6 hK6 => ?_
    refine SL.Ok.region ?_
    refine SL.Ok.op rfl rfl rfl (SL.Pure.move rfl rfl) ?_
    refine SL.Ok.op rfl rfl rfl (SL.Pure.nilCheck rfl rfl) ?_
    refine SL.Ok.op rfl rfl rfl (SL.Pure.fieldAddr (k := 35) rfl rfl (by kernel_rfl) rfl) ?_
    refine SL.Ok.eff rfl (by first | exact SL.Eff.storeG (k := 1) 0 [SL.Seg.one _ rfl] rfl rfl rfl rfl rfl rfl (by kernel_rfl) rfl rfl | exact SL.Eff.storeG (k := 1) 1 [SL.Seg.one _ rfl] rfl rfl rfl rfl rfl rfl (by kernel_rfl) rfl rfl) ?_
    intro _ _
    try simp only [SL.setN, SL.putD, SL.selM, SL.nth, List.cons_append, List.nil_append]
    refine SL.Ok.nil ?_
    refine SL.Ok.normThen ?_
    refine hK6 _ _ ?_
    refine SL.Ok.seq fun K7 hK7 => ?_
    refine SL.Ok.region ?_
    refine SL.Ok.op rfl rfl rfl (SL.Pure.move rfl rfl) ?_
    refine SL.Ok.op rfl rfl rfl (SL.Pure.nilCheck rfl rfl) ?_
    refine SL.Ok.op rfl rfl rfl (SL.Pure.fieldAddr (k := 0) rfl rfl (by kernel_rfl) rfl) ?_
    refine SL.Ok.op rfl rfl rfl (by first | exact SL.Pure.loadA 0 (k := 32) rfl rfl rfl (by kernel_rfl) rfl (by kernel_rfl) | exact SL.Pure.loadA 1 (k := 32) rfl rfl rfl (by kernel_rfl) rfl (by kernel_rfl)) ?_
    refine SL.Ok.op rfl rfl rfl (SL.Pure.build [(0, 1), (1, 1), (2, 32), (34, 1), (35, 1), (36, 1), (37, 1), (38, 1)] [Seg.one (.int .i64 0) rfl, Seg.one (str []) rfl, (B.zero 32).seg, Seg.one (.int .i64 0) rfl, Seg.one (.int .i64 0) rfl, Seg.one (.int .i64 0) rfl, Seg.one (.int .i64 0) rfl, Seg.one (str []) rfl] rfl rfl (.cons (.one rfl) (.cons .agg .nil)) (by kernel_rfl) (by kernel_rfl) rfl) ?_
    refine SL.Ok.eff rfl (by first | exact SL.Eff.storeG (k := 39) 0 _ rfl rfl rfl rfl rfl rfl (by kernel_rfl) rfl rfl | exact SL.Eff.storeG (k := 39) 1 _ rfl rfl rfl rfl rfl rfl (by kernel_rfl) rfl rfl) ?_
    intro _ _
    try simp only [SL.setN, SL.putD, SL.selM, SL.nth, List.cons_append, List.nil_append]
    refine SL.Ok.op rfl rfl rfl (SL.Pure.assign rfl rfl) ?_
    refine SL.Ok.nil ?_
    refine SL.Ok.normThen ?_
    refine hK7 _ _ ?_
    refine SL.Ok.ret (SL.retThen SL.retHere) (SL.resL rfl (.cons (SL.RV.cellA 0 (k := 39) rfl rfl (by kernel_rfl) rfl (by kernel_rfl)) (.cons (.tmp rfl) .nil)) rfl) (fun w' hM' hK' => ?_)
    exact ⟨(), trivial, rfl, hK', hM'.sel [1] rfl⟩
  have hs : say s = ({ s with sent := min s.t.length (s.sent + s.chunk) }, cmd 7 [] s.id 0 s.sent 0 0 ((s.t.take (min (s.t.length : Int) (s.sent + s.chunk)).toNat).drop s.sent.toNat), true) := by simp [say, hf', he]
  rw [hs]
  refine SL.calls_ok (n := 67) (W := (blocksOf (smem b s))) (m := (smem b s)) Tryz.func5 rfl Tryz.ntmps5 rfl hm ?_
  simp only [SL.enum, Nat.reduceAdd]
  refine SL.Ok.seq fun K1 hK1 => ?_
  refine SL.Ok.region ?_
  refine SL.Ok.eff rfl (SL.Eff.alloc [Seg.one (.int .i64 0) rfl, Seg.one (str []) rfl, (B.zero 32).seg, Seg.one (.int .i64 0) rfl, Seg.one (.int .i64 0) rfl, Seg.one (.int .i64 0) rfl, Seg.one (.int .i64 0) rfl, Seg.one (str []) rfl] rfl rfl rfl (by kernel_rfl)) ?_
  intro b2 _
  try simp only [SL.setN, SL.putD, SL.selM, SL.nth, List.cons_append, List.nil_append]
  refine SL.Ok.op rfl rfl rfl (SL.Pure.assign rfl rfl) ?_
  refine SL.Ok.nil ?_
  refine SL.Ok.normThen ?_
  refine hK1 _ _ ?_
  refine SL.Ok.seq fun K2 hK2 => ?_
  refine SL.Ok.seq fun K3 hK3 => ?_
  refine SL.Ok.region ?_
  refine SL.Ok.op rfl rfl rfl (SL.Pure.move rfl rfl) ?_
  refine SL.Ok.op rfl rfl rfl (SL.Pure.eqNil rfl rfl rfl Tryz.underlying27) ?_
  refine SL.Ok.op rfl rfl rfl (SL.Pure.move rfl rfl) ?_
  refine SL.Ok.setF (d := 7) rfl (rfl) ?_
  refine SL.Ok.opG rfl rfl rfl rfl rfl rfl rfl (SL.Pure.move rfl rfl) ?_
  refine SL.Ok.opG rfl rfl rfl rfl rfl rfl rfl (SL.Pure.nilCheck rfl rfl) ?_
  refine SL.Ok.opG rfl rfl rfl rfl rfl rfl rfl (SL.Pure.fieldAddr (k := 35) rfl rfl (by kernel_rfl) rfl) ?_
  refine SL.Ok.opG rfl rfl rfl rfl rfl rfl rfl (by first | exact SL.Pure.load1 0 rfl rfl rfl rfl (by kernel_rfl) | exact SL.Pure.load1 1 rfl rfl rfl rfl (by kernel_rfl)) ?_
  refine SL.Ok.op rfl rfl rfl (SL.Pure.pickF rfl rfl rfl) ?_
  refine SL.Ok.nil ?_
  refine SL.Ok.normThen ?_
  refine hK3 _ _ ?_
  refine SL.Ok.condF' rfl (hf') ?_
  refine SL.Ok.skip' ?_
  refine SL.Ok.normThen ?_
  refine hK2 _ _ ?_
  refine SL.Ok.seq fun K4 hK4 => ?_
  refine SL.Ok.seq fun K5 hK5 => ?_
  refine SL.Ok.still 9 mixed (by kernel_rfl) rfl rfl (fun wd3 => ?_)
  refine SL.OkS.op rfl rfl rfl (SL.Pure.move rfl rfl) ?_
  refine SL.OkS.op rfl rfl rfl (SL.Pure.nilCheck rfl rfl) ?_
  refine SL.OkS.op rfl rfl rfl (SL.Pure.fieldAddr (k := 34) rfl rfl (by kernel_rfl) rfl) ?_
  refine SL.OkS.op rfl rfl rfl (by first | exact SL.Pure.load1 0 rfl rfl rfl rfl (by kernel_rfl) | exact SL.Pure.load1 1 rfl rfl rfl rfl (by kernel_rfl)) ?_
  refine SL.OkS.op rfl rfl rfl (SL.Pure.move rfl rfl) ?_
  refine SL.OkS.op rfl rfl rfl (SL.Pure.nilCheck rfl rfl) ?_
  refine SL.OkS.op rfl rfl rfl (SL.Pure.fieldAddr (k := 32) rfl rfl (by kernel_rfl) rfl) ?_
  refine SL.OkS.op rfl rfl rfl (by first | exact SL.Pure.load1 0 rfl rfl rfl rfl (by kernel_rfl) | exact SL.Pure.load1 1 rfl rfl rfl rfl (by kernel_rfl)) ?_
  refine SL.OkS.op rfl rfl rfl (SL.Pure.lenS rfl rfl rfl Tryz.underlying9) ?_
  refine SL.OkS.tail ?_
  refine SL.Ok.op rfl rfl rfl (SL.Pure.eqi rfl rfl rfl) ?_
  refine SL.Ok.nil ?_
  refine SL.Ok.normThen ?_
  refine hK5 _ _ ?_
  refine SL.Ok.condF' rfl (by simp [he]) ?_
  refine SL.Ok.skip' ?_
  refine SL.Ok.normThen ?_
  refine hK4 _ _ ?_
  refine SL.Ok.seq fun K6 hK6 => ?_
  refine SL.Ok.region ?_
  refine SL.Ok.op rfl rfl rfl (SL.Pure.move rfl rfl) ?_
  refine SL.Ok.op rfl rfl rfl (SL.Pure.nilCheck rfl rfl) ?_
  refine SL.Ok.op rfl rfl rfl (SL.Pure.fieldAddr (k := 34) rfl rfl (by kernel_rfl) rfl) ?_
  refine SL.Ok.op rfl rfl rfl (by first | exact SL.Pure.load1 0 rfl rfl rfl rfl (by kernel_rfl) | exact SL.Pure.load1 1 rfl rfl rfl rfl (by kernel_rfl)) ?_
  refine SL.Ok.op rfl rfl rfl (SL.Pure.assign rfl rfl) ?_
  refine SL.Ok.nil ?_
  refine SL.Ok.normThen ?_
  refine hK6 _ _ ?_
  refine SL.Ok.seq fun K7 hK7 => ?_
  refine SL.Ok.still 15 mixed (by kernel_rfl) rfl rfl (fun wd7 => ?_)
  refine SL.OkS.op rfl rfl rfl (SL.Pure.move rfl rfl) ?_
  refine SL.OkS.op rfl rfl rfl (SL.Pure.move rfl rfl) ?_
  refine SL.OkS.op rfl rfl rfl (SL.Pure.nilCheck rfl rfl) ?_
  refine SL.OkS.op rfl rfl rfl (SL.Pure.fieldAddr (k := 32) rfl rfl (by kernel_rfl) rfl) ?_
  refine SL.OkS.op rfl rfl rfl (by first | exact SL.Pure.load1 0 rfl rfl rfl rfl (by kernel_rfl) | exact SL.Pure.load1 1 rfl rfl rfl rfl (by kernel_rfl)) ?_
  refine SL.OkS.op rfl rfl rfl (SL.Pure.lenS rfl rfl rfl Tryz.underlying9) ?_
  refine SL.OkS.op rfl rfl rfl (SL.Pure.move rfl rfl) ?_
  refine SL.OkS.op rfl rfl rfl (SL.Pure.move rfl rfl) ?_
  refine SL.OkS.op rfl rfl rfl (SL.Pure.nilCheck rfl rfl) ?_
  refine SL.OkS.op rfl rfl rfl (SL.Pure.fieldAddr (k := 33) rfl rfl (by kernel_rfl) rfl) ?_
  refine SL.OkS.op rfl rfl rfl (by first | exact SL.Pure.load1 0 rfl rfl rfl rfl (by kernel_rfl) | exact SL.Pure.load1 1 rfl rfl rfl rfl (by kernel_rfl)) ?_
  refine SL.OkS.op rfl rfl rfl (SL.Pure.addI rfl rfl rfl rfl (by omega) (by omega)) ?_
  refine SL.OkS.op rfl rfl rfl (SL.Pure.min2 rfl rfl rfl) ?_
  refine SL.OkS.op rfl rfl rfl (SL.Pure.nilCheck rfl rfl) ?_
  refine SL.OkS.op rfl rfl rfl (SL.Pure.fieldAddr (k := 34) rfl rfl (by kernel_rfl) rfl) ?_
  refine SL.OkS.tail ?_
  refine SL.Ok.eff rfl (by first | exact SL.Eff.storeG (k := 1) 0 [SL.Seg.one _ rfl] rfl rfl rfl rfl rfl rfl (by kernel_rfl) rfl rfl | exact SL.Eff.storeG (k := 1) 1 [SL.Seg.one _ rfl] rfl rfl rfl rfl rfl rfl (by kernel_rfl) rfl rfl) ?_
  intro _ _
  try simp only [SL.setN, SL.putD, SL.selM, SL.nth, List.cons_append, List.nil_append]
  refine SL.Ok.nil ?_
  refine SL.Ok.normThen ?_
  refine hK7 _ _ ?_
  refine SL.Ok.seq fun K8 hK8 => ?_
  refine SL.Ok.still 16 mixed (by kernel_rfl) rfl rfl (fun wd8 => ?_)
  refine SL.OkS.op rfl rfl rfl (SL.Pure.move rfl rfl) ?_
  refine SL.OkS.op rfl rfl rfl (SL.Pure.nilCheck rfl rfl) ?_
  refine SL.OkS.op rfl rfl rfl (SL.Pure.fieldAddr (k := 0) rfl rfl (by kernel_rfl) rfl) ?_
  refine SL.OkS.op rfl rfl rfl (by first | exact SL.Pure.loadA 0 (k := 32) rfl rfl rfl (by kernel_rfl) rfl (by kernel_rfl) | exact SL.Pure.loadA 1 (k := 32) rfl rfl rfl (by kernel_rfl) rfl (by kernel_rfl)) ?_
  refine SL.OkS.op rfl rfl rfl (SL.Pure.move rfl rfl) ?_
  refine SL.OkS.op rfl rfl rfl (SL.Pure.move rfl rfl) ?_
  refine SL.OkS.op rfl rfl rfl (SL.Pure.nilCheck rfl rfl) ?_
  refine SL.OkS.op rfl rfl rfl (SL.Pure.fieldAddr (k := 32) rfl rfl (by kernel_rfl) rfl) ?_
  refine SL.OkS.op rfl rfl rfl (by first | exact SL.Pure.load1 0 rfl rfl rfl rfl (by kernel_rfl) | exact SL.Pure.load1 1 rfl rfl rfl rfl (by kernel_rfl)) ?_
  refine SL.OkS.op rfl rfl rfl (SL.Pure.move rfl rfl) ?_
  refine SL.OkS.op rfl rfl rfl (SL.Pure.move rfl rfl) ?_
  refine SL.OkS.op rfl rfl rfl (SL.Pure.nilCheck rfl rfl) ?_
  refine SL.OkS.op rfl rfl rfl (SL.Pure.fieldAddr (k := 34) rfl rfl (by kernel_rfl) rfl) ?_
  refine SL.OkS.op rfl rfl rfl (by first | exact SL.Pure.load1 0 rfl rfl rfl rfl (by kernel_rfl) | exact SL.Pure.load1 1 rfl rfl rfl rfl (by kernel_rfl)) ?_
  refine SL.OkS.op rfl rfl rfl (SL.Pure.sliceS rfl rfl Tryz.underlying9 rfl rfl (by omega) (by omega) (by omega)) ?_
  refine SL.OkS.op rfl rfl rfl (SL.Pure.build [(0, 1), (1, 1), (2, 32), (34, 1), (35, 1), (36, 1), (37, 1), (38, 1)] [Seg.one (.int .i64 0) rfl, Seg.one (str []) rfl, (B.zero 32).seg, Seg.one (.int .i64 0) rfl, Seg.one (.int .i64 0) rfl, Seg.one (.int .i64 0) rfl, Seg.one (.int .i64 0) rfl, Seg.one (str []) rfl] rfl rfl (.cons (.one rfl) (.cons .agg (.cons (.one rfl) (.cons (.one rfl) .nil)))) (by kernel_rfl) (by kernel_rfl) rfl) ?_
  refine SL.OkS.tail ?_
  refine SL.Ok.eff rfl (by first | exact SL.Eff.storeG (k := 39) 0 _ rfl rfl rfl rfl rfl rfl (by kernel_rfl) rfl rfl | exact SL.Eff.storeG (k := 39) 1 _ rfl rfl rfl rfl rfl rfl (by kernel_rfl) rfl rfl) ?_
  intro _ _
  try simp only [SL.setN, SL.putD, SL.selM, SL.nth, List.cons_append, List.nil_append]
  refine SL.Ok.op rfl rfl rfl (SL.Pure.assign rfl rfl) ?_
  refine SL.Ok.nil ?_
  refine SL.Ok.normThen ?_
  refine hK8 _ _ ?_
  refine SL.Ok.ret SL.retHere (SL.resL rfl (.cons (SL.RV.cellA 0 (k := 39) rfl rfl (by kernel_rfl) rfl (by kernel_rfl)) (.cons (.tmp rfl) .nil)) rfl) (fun w' hM' hK' => ?_)
  exact ⟨(), trivial, rfl, hK', hM'.sel [1] rfl⟩

theorem sent_c (b : Nat) (s : SS) (w : World) (hb : w.heap[b]? = some (.cells (flat (sseg s)) 48 (0, 0))) :
    Calls Tryz.prog 9 [.pointer (some ⟨b, 0, none⟩)].toArray w fun e w' => e = .returned (.int .i64 s.sent) ∧ Keeps none1 w w' := by
  refine SL.calls_ok (n := 9) (W := SL.none1) (m := []) Tryz.func9 rfl Tryz.ntmps9 rfl (SL.Mem.nil _ _ _) ?_
  simp only [SL.enum, Nat.reduceAdd]
  refine SL.Ok.seq fun K1 hK1 => ?_
  refine SL.Ok.region ?_
  refine SL.Ok.op rfl rfl rfl (SL.Pure.assign rfl rfl) ?_
  refine SL.Ok.nil ?_
  refine SL.Ok.normThen ?_
  refine hK1 _ _ ?_
  refine SL.Ok.seq fun K2 hK2 => ?_
  refine SL.Ok.seq fun K3 hK3 => ?_
  refine SL.Ok.region ?_
  refine SL.Ok.op rfl rfl rfl (SL.Pure.move rfl rfl) ?_
  refine SL.Ok.op rfl rfl rfl (SL.Pure.eqNil rfl rfl rfl Tryz.underlying27) ?_
  refine SL.Ok.nil ?_
  refine SL.Ok.normThen ?_
  refine hK3 _ _ ?_
  refine SL.Ok.condF' rfl (rfl) ?_
  refine SL.Ok.skip' ?_
  refine SL.Ok.normThen ?_
  refine hK2 _ _ ?_
  refine SL.Ok.seq fun K4 hK4 => ?_
  refine SL.Ok.region ?_
  refine SL.Ok.op rfl rfl rfl (SL.Pure.move rfl rfl) ?_
  refine SL.Ok.op rfl rfl rfl (SL.Pure.nilCheck rfl rfl) ?_
  refine SL.Ok.op rfl rfl rfl (SL.Pure.fieldAddr (k := 34) rfl rfl (by kernel_rfl) rfl) ?_
  refine SL.Ok.op rfl rfl rfl (by first | exact SL.Pure.loadO1 hb (fun h => h) rfl rfl rfl (by kernel_rfl)) ?_
  refine SL.Ok.op rfl rfl rfl (SL.Pure.assign rfl rfl) ?_
  refine SL.Ok.nil ?_
  refine SL.Ok.normThen ?_
  refine hK4 _ _ ?_
  refine SL.Ok.ret SL.retHere (SL.resL rfl (.cons (.tmp rfl) .nil) rfl) (fun w' hM' hK' => ?_)
  exact ⟨rfl, hK'⟩

end Go.Proofs.YtehjohfpegbhmaaGreatDoor
