/- Contracts of package transfer: Hear. -/
import Derived.Test.YtehjohfpegbhmaaGreatDoorTr2
namespace Go.Proofs.YtehjohfpegbhmaaGreatDoor
open Go.SL Go.RowKit
set_option linter.unusedVariables false
set_option maxRecDepth 100000
set_option linter.unusedSimpArgs false

abbrev ccmd (v : Int) (i : B 32) (f : Int) (x : List UInt8) : List Seg := cmd v [] i 0 f 0 0 x

theorem rlies (pre : List Seg) (post : List Seg) (a : Option Addr) (n c : Nat) (h : (flat (bsegs pre none a n c post)).size = 36) (hp : width pre = 33) :
    liesAt Tryz.prog Tryz.prog.depth 54 ((flat (bsegs pre none a n c post)).size / Tryz.prog.cellsOf 54) (width pre) 52 1 = true := by
  rw [h, hp]; kernel_rfl

theorem data_seq (b : Nat) (r : RS) (x : BX) (v : Int) (i : B 32) (f : Int) (t : List UInt8) (h : f ≠ r.t.length) (w : World) (hb : w.heap[b]? = some (.cells (flat (rsg r x)) 54 (0, 0))) :
    Calls Tryz.prog 28 [.pointer (some ⟨b, 0, none⟩), .agg (flat (ccmd v i f t))].toArray w fun e w' => e = .returned (.int .i64 30) ∧ Keeps none1 w w' := by
  refine SL.calls_ok (n := 33) (W := SL.none1) (m := []) Tryz.func28 rfl Tryz.ntmps28 rfl (SL.Mem.nil _ _ _) ?_
  simp only [SL.enum, Nat.reduceAdd]
  refine SL.Ok.seq fun K1 hK1 => ?_
  refine SL.Ok.region ?_
  refine SL.Ok.eff rfl (SL.Eff.box _ rfl rfl rfl rfl rfl) ?_
  intro b3 _
  try simp only [SL.setN, SL.putD, SL.selM, SL.nth, List.cons_append, List.nil_append]
  refine SL.Ok.op rfl rfl rfl (SL.Pure.assign rfl rfl) ?_
  refine SL.Ok.nil ?_
  refine SL.Ok.normThen ?_
  refine hK1 _ _ ?_
  refine SL.Ok.seq fun K2 hK2 => ?_
  refine SL.Ok.block ?_
  refine SL.Ok.seq fun K3 hK3 => ?_
  refine SL.Ok.held [0] mixed rfl rfl ?_
  simp only [List.replicate, List.length_cons, List.length_nil, Nat.reduceAdd]
  refine SL.OkH.take 0 rfl rfl rfl rfl (by kernel_rfl) (by kernel_rfl) (by kernel_rfl) rfl (fun _ _ _ h => h) [0] rfl rfl (SL.Pure.fieldAddr (k := 35) rfl rfl (by kernel_rfl) rfl) ?_
  refine SL.OkH.take 1 rfl rfl rfl rfl (by kernel_rfl) (by kernel_rfl) (by kernel_rfl) rfl (fun _ _ _ h => h) [0] rfl rfl (by first | exact SL.Pure.loadO1 hb (fun h => h) rfl rfl rfl (by kernel_rfl) | exact SL.Pure.load1 0 rfl rfl rfl rfl (by kernel_rfl)) ?_
  refine SL.OkH.take 2 rfl rfl rfl rfl (by kernel_rfl) (by kernel_rfl) (by kernel_rfl) rfl (fun _ _ _ h => h) [0] rfl rfl (SL.Pure.move rfl rfl) ?_
  refine SL.OkH.take 3 rfl rfl rfl rfl (by kernel_rfl) (by kernel_rfl) (by kernel_rfl) rfl (fun _ _ _ h => h) [0] rfl rfl (SL.Pure.nilCheck rfl rfl) ?_
  refine SL.OkH.take 4 rfl rfl rfl rfl (by kernel_rfl) (by kernel_rfl) (by kernel_rfl) rfl (fun _ _ _ h => h) [0] rfl rfl (SL.Pure.fieldAddr (k := 33) rfl rfl (by kernel_rfl) rfl) ?_
  refine SL.OkH.eff 5 rfl rfl (by kernel_rfl) rfl [0] (fun _ => rfl) rfl (SL.Eff.at rfl (SL.Eff.callV rfl rfl (by kernel_rfl) rfl rfl (fun w hM hK => bld_len b _ _ (rpre r.id r.size) (rpost r.fin) x.p x.a r.t.length x.c w (hK.old hb (fun h => h))))) ?_
  intro _ _
  try simp only [SL.setN, SL.putD, SL.selM, SL.nth, List.cons_append, List.nil_append]
  refine SL.OkH.take 6 rfl rfl rfl rfl (by kernel_rfl) (by kernel_rfl) (by kernel_rfl) rfl (fun _ _ _ h => h) [0] rfl rfl (SL.Pure.nei rfl rfl rfl) ?_
  refine SL.OkH.take 7 rfl rfl rfl rfl (by kernel_rfl) (by kernel_rfl) (by kernel_rfl) rfl (fun _ _ _ h => h) [0] rfl rfl (SL.Pure.assign rfl rfl) ?_
  refine SL.OkH.done (by kernel_rfl) ?_
  refine SL.Ok.normThen ?_
  refine hK3 _ _ ?_
  refine SL.Ok.condT' rfl (by simp [h]) ?_
  refine SL.Ok.seq fun K4 hK4 => ?_
  refine SL.Ok.region ?_
  refine SL.Ok.op rfl rfl rfl (SL.Pure.assign rfl rfl) ?_
  refine SL.Ok.nil ?_
  refine SL.Ok.normThen ?_
  refine hK4 _ _ ?_
  refine SL.Ok.ret (SL.retBlock (SL.retThen SL.retHere)) (SL.resL rfl (.cons (.tmp rfl) .nil) rfl) (fun w' hM' hK' => ?_)
  exact ⟨rfl, hK'⟩

theorem data_long (b : Nat) (r : RS) (x : BX) (hi : rinv r) (v : Int) (i : B 32) (f : Int) (t : List UInt8) (h : f = r.t.length) (h2 : r.size < r.t.length + t.length) (w : World) (hb : w.heap[b]? = some (.cells (flat (rsg r x)) 54 (0, 0))) :
    Calls Tryz.prog 28 [.pointer (some ⟨b, 0, none⟩), .agg (flat (ccmd v i f t))].toArray w fun e w' => e = .returned (.int .i64 5) ∧ Keeps none1 w w' := by
  obtain ⟨h0, h1, h3⟩ := hi
  refine SL.calls_ok (n := 33) (W := SL.none1) (m := []) Tryz.func28 rfl Tryz.ntmps28 rfl (SL.Mem.nil _ _ _) ?_
  simp only [SL.enum, Nat.reduceAdd]
  refine SL.Ok.seq fun K1 hK1 => ?_
  refine SL.Ok.region ?_
  refine SL.Ok.eff rfl (SL.Eff.box _ rfl rfl rfl rfl rfl) ?_
  intro b3 _
  try simp only [SL.setN, SL.putD, SL.selM, SL.nth, List.cons_append, List.nil_append]
  refine SL.Ok.op rfl rfl rfl (SL.Pure.assign rfl rfl) ?_
  refine SL.Ok.nil ?_
  refine SL.Ok.normThen ?_
  refine hK1 _ _ ?_
  refine SL.Ok.seq fun K2 hK2 => ?_
  refine SL.Ok.block ?_
  refine SL.Ok.seq fun K3 hK3 => ?_
  refine SL.Ok.held [0] mixed rfl rfl ?_
  simp only [List.replicate, List.length_cons, List.length_nil, Nat.reduceAdd]
  refine SL.OkH.take 0 rfl rfl rfl rfl (by kernel_rfl) (by kernel_rfl) (by kernel_rfl) rfl (fun _ _ _ h => h) [0] rfl rfl (SL.Pure.fieldAddr (k := 35) rfl rfl (by kernel_rfl) rfl) ?_
  refine SL.OkH.take 1 rfl rfl rfl rfl (by kernel_rfl) (by kernel_rfl) (by kernel_rfl) rfl (fun _ _ _ h => h) [0] rfl rfl (by first | exact SL.Pure.loadO1 hb (fun h => h) rfl rfl rfl (by kernel_rfl) | exact SL.Pure.load1 0 rfl rfl rfl rfl (by kernel_rfl)) ?_
  refine SL.OkH.take 2 rfl rfl rfl rfl (by kernel_rfl) (by kernel_rfl) (by kernel_rfl) rfl (fun _ _ _ h => h) [0] rfl rfl (SL.Pure.move rfl rfl) ?_
  refine SL.OkH.take 3 rfl rfl rfl rfl (by kernel_rfl) (by kernel_rfl) (by kernel_rfl) rfl (fun _ _ _ h => h) [0] rfl rfl (SL.Pure.nilCheck rfl rfl) ?_
  refine SL.OkH.take 4 rfl rfl rfl rfl (by kernel_rfl) (by kernel_rfl) (by kernel_rfl) rfl (fun _ _ _ h => h) [0] rfl rfl (SL.Pure.fieldAddr (k := 33) rfl rfl (by kernel_rfl) rfl) ?_
  refine SL.OkH.eff 5 rfl rfl (by kernel_rfl) rfl [0] (fun _ => rfl) rfl (SL.Eff.at rfl (SL.Eff.callV rfl rfl (by kernel_rfl) rfl rfl (fun w hM hK => bld_len b _ _ (rpre r.id r.size) (rpost r.fin) x.p x.a r.t.length x.c w (hK.old hb (fun h => h))))) ?_
  intro _ _
  try simp only [SL.setN, SL.putD, SL.selM, SL.nth, List.cons_append, List.nil_append]
  refine SL.OkH.take 6 rfl rfl rfl rfl (by kernel_rfl) (by kernel_rfl) (by kernel_rfl) rfl (fun _ _ _ h => h) [0] rfl rfl (SL.Pure.nei rfl rfl rfl) ?_
  refine SL.OkH.take 7 rfl rfl rfl rfl (by kernel_rfl) (by kernel_rfl) (by kernel_rfl) rfl (fun _ _ _ h => h) [0] rfl rfl (SL.Pure.assign rfl rfl) ?_
  refine SL.OkH.done (by kernel_rfl) ?_
  refine SL.Ok.normThen ?_
  refine hK3 _ _ ?_
  refine SL.Ok.condF' rfl (by simp [h]) ?_
  refine SL.Ok.seq fun K4 hK4 => ?_
  refine SL.Ok.held [0] mixed rfl rfl ?_
  simp only [List.replicate, List.length_cons, List.length_nil, Nat.reduceAdd]
  refine SL.OkH.take 0 rfl rfl rfl rfl (by kernel_rfl) (by kernel_rfl) (by kernel_rfl) rfl (fun _ _ _ h => h) [0] rfl rfl (SL.Pure.fieldAddr (k := 38) rfl rfl (by kernel_rfl) rfl) ?_
  refine SL.OkH.take 1 rfl rfl rfl rfl (by kernel_rfl) (by kernel_rfl) (by kernel_rfl) rfl (fun _ _ _ h => h) [0] rfl rfl (by first | exact SL.Pure.loadO1 hb (fun h => h) rfl rfl rfl (by kernel_rfl) | exact SL.Pure.load1 0 rfl rfl rfl rfl (by kernel_rfl)) ?_
  refine SL.OkH.take 2 rfl rfl rfl rfl (by kernel_rfl) (by kernel_rfl) (by kernel_rfl) rfl (fun _ _ _ h => h) [0] rfl rfl (SL.Pure.lenS rfl rfl rfl Tryz.underlying9) ?_
  refine SL.OkH.take 3 rfl rfl rfl rfl (by kernel_rfl) (by kernel_rfl) (by kernel_rfl) rfl (fun _ _ _ h => h) [0] rfl rfl (SL.Pure.move rfl rfl) ?_
  refine SL.OkH.take 4 rfl rfl rfl rfl (by kernel_rfl) (by kernel_rfl) (by kernel_rfl) rfl (fun _ _ _ h => h) [0] rfl rfl (SL.Pure.nilCheck rfl rfl) ?_
  refine SL.OkH.take 5 rfl rfl rfl rfl (by kernel_rfl) (by kernel_rfl) (by kernel_rfl) rfl (fun _ _ _ h => h) [0] rfl rfl (SL.Pure.fieldAddr (k := 32) rfl rfl (by kernel_rfl) rfl) ?_
  refine SL.OkH.take 6 rfl rfl rfl rfl (by kernel_rfl) (by kernel_rfl) (by kernel_rfl) rfl (fun _ _ _ h => h) [0] rfl rfl (by first | exact SL.Pure.loadO1 hb (fun h => h) rfl rfl rfl (by kernel_rfl) | exact SL.Pure.load1 0 rfl rfl rfl rfl (by kernel_rfl)) ?_
  refine SL.OkH.take 7 rfl rfl rfl rfl (by kernel_rfl) (by kernel_rfl) (by kernel_rfl) rfl (fun _ _ _ h => h) [0] rfl rfl (SL.Pure.move rfl rfl) ?_
  refine SL.OkH.take 8 rfl rfl rfl rfl (by kernel_rfl) (by kernel_rfl) (by kernel_rfl) rfl (fun _ _ _ h => h) [0] rfl rfl (SL.Pure.nilCheck rfl rfl) ?_
  refine SL.OkH.take 9 rfl rfl rfl rfl (by kernel_rfl) (by kernel_rfl) (by kernel_rfl) rfl (fun _ _ _ h => h) [0] rfl rfl (SL.Pure.fieldAddr (k := 33) rfl rfl (by kernel_rfl) rfl) ?_
  refine SL.OkH.eff 10 rfl rfl (by kernel_rfl) rfl [0] (fun _ => rfl) rfl (SL.Eff.at rfl (SL.Eff.callV rfl rfl (by kernel_rfl) rfl rfl (fun w hM hK => bld_len b _ _ (rpre r.id r.size) (rpost r.fin) x.p x.a r.t.length x.c w (hK.old hb (fun h => h))))) ?_
  intro _ _
  try simp only [SL.setN, SL.putD, SL.selM, SL.nth, List.cons_append, List.nil_append]
  refine SL.OkH.take 11 rfl rfl rfl rfl (by kernel_rfl) (by kernel_rfl) (by kernel_rfl) rfl (fun _ _ _ h => h) [0] rfl rfl (SL.Pure.subI rfl rfl rfl rfl (by omega) (by omega)) ?_
  refine SL.OkH.take 12 rfl rfl rfl rfl (by kernel_rfl) (by kernel_rfl) (by kernel_rfl) rfl (fun _ _ _ h => h) [0] rfl rfl (SL.Pure.gtr rfl rfl rfl) ?_
  refine SL.OkH.take 13 rfl rfl rfl rfl (by kernel_rfl) (by kernel_rfl) (by kernel_rfl) rfl (fun _ _ _ h => h) [0] rfl rfl (SL.Pure.assign rfl rfl) ?_
  refine SL.OkH.done (by kernel_rfl) ?_
  refine SL.Ok.normThen ?_
  refine hK4 _ _ ?_
  refine SL.Ok.condT' rfl (by simp; omega) ?_
  refine SL.Ok.seq fun K5 hK5 => ?_
  refine SL.Ok.region ?_
  refine SL.Ok.op rfl rfl rfl (SL.Pure.assign rfl rfl) ?_
  refine SL.Ok.nil ?_
  refine SL.Ok.normThen ?_
  refine hK5 _ _ ?_
  refine SL.Ok.ret (SL.retBlock (SL.retThen SL.retHere)) (SL.resL rfl (.cons (.tmp rfl) .nil) rfl) (fun w' hM' hK' => ?_)
  exact ⟨rfl, hK'⟩

theorem data_ok (b : Nat) (r : RS) (x : BX) (hok : rok b r x) (hi : rinv r) (v : Int) (i : B 32) (f : Int) (t : List UInt8) (h : f = r.t.length) (h2 : ¬ r.size < r.t.length + t.length) (w : World) (hm : Mem (blocksOf (rmem b r x)) w (rmem b r x) w) :
    Calls Tryz.prog 28 [.pointer (some ⟨b, 0, none⟩), .agg (flat (ccmd v i f t))].toArray w fun e w' => ∃ y : BX, rok b { r with t := r.t ++ t } y ∧ e = .returned (.int .i64 0) ∧ Post w (blocksOf (rmem b r x)) (rmem b { r with t := r.t ++ t } y) w' := by
  obtain ⟨h0, h1, h3⟩ := hi
  refine SL.calls_ok (n := 33) (W := (blocksOf (rmem b r x))) (m := rmem b r x) Tryz.func28 rfl Tryz.ntmps28 rfl hm ?_
  simp only [SL.enum, Nat.reduceAdd]
  refine SL.Ok.seq fun K1 hK1 => ?_
  refine SL.Ok.region ?_
  refine SL.Ok.eff rfl (SL.Eff.box _ rfl rfl rfl rfl rfl) ?_
  intro b3 _
  try simp only [SL.setN, SL.putD, SL.selM, SL.nth, List.cons_append, List.nil_append]
  refine SL.Ok.op rfl rfl rfl (SL.Pure.assign rfl rfl) ?_
  refine SL.Ok.nil ?_
  refine SL.Ok.normThen ?_
  refine hK1 _ _ ?_
  refine SL.Ok.seq fun K2 hK2 => ?_
  refine SL.Ok.block ?_
  refine SL.Ok.seq fun K3 hK3 => ?_
  refine SL.Ok.held [0, 1, 2] mixed rfl rfl ?_
  simp only [List.replicate, List.length_cons, List.length_nil, Nat.reduceAdd]
  refine SL.OkH.take 0 rfl rfl rfl rfl (by kernel_rfl) (by kernel_rfl) (by kernel_rfl) rfl (fun _ _ _ h => h) [0, 1, 2] rfl rfl (SL.Pure.fieldAddr (k := 35) rfl rfl (by kernel_rfl) rfl) ?_
  refine SL.OkH.take 1 rfl rfl rfl rfl (by kernel_rfl) (by kernel_rfl) (by kernel_rfl) rfl (fun _ _ _ h => h) [0, 1, 2] rfl rfl (by first | exact SL.Pure.load1 0 rfl rfl rfl rfl (by kernel_rfl) | exact SL.Pure.load1 1 rfl rfl rfl rfl (by kernel_rfl) | exact SL.Pure.load1 2 rfl rfl rfl rfl (by kernel_rfl)) ?_
  refine SL.OkH.take 2 rfl rfl rfl rfl (by kernel_rfl) (by kernel_rfl) (by kernel_rfl) rfl (fun _ _ _ h => h) [0, 1, 2] rfl rfl (SL.Pure.move rfl rfl) ?_
  refine SL.OkH.take 3 rfl rfl rfl rfl (by kernel_rfl) (by kernel_rfl) (by kernel_rfl) rfl (fun _ _ _ h => h) [0, 1, 2] rfl rfl (SL.Pure.nilCheck rfl rfl) ?_
  refine SL.OkH.take 4 rfl rfl rfl rfl (by kernel_rfl) (by kernel_rfl) (by kernel_rfl) rfl (fun _ _ _ h => h) [0, 1, 2] rfl rfl (SL.Pure.fieldAddr (k := 33) rfl rfl (by kernel_rfl) rfl) ?_
  refine SL.OkH.eff 5 rfl rfl (by kernel_rfl) rfl [0, 1, 2] (fun _ => rfl) rfl (SL.Eff.at rfl (SL.Eff.callV rfl rfl (by kernel_rfl) rfl rfl (fun w hM hK => bld_len b _ _ (rpre r.id r.size) (rpost r.fin) x.p x.a r.t.length x.c w (hM.blk (i := 1) rfl)))) ?_
  intro _ _
  try simp only [SL.setN, SL.putD, SL.selM, SL.nth, List.cons_append, List.nil_append]
  refine SL.OkH.take 6 rfl rfl rfl rfl (by kernel_rfl) (by kernel_rfl) (by kernel_rfl) rfl (fun _ _ _ h => h) [0, 1, 2] rfl rfl (SL.Pure.nei rfl rfl rfl) ?_
  refine SL.OkH.take 7 rfl rfl rfl rfl (by kernel_rfl) (by kernel_rfl) (by kernel_rfl) rfl (fun _ _ _ h => h) [0, 1, 2] rfl rfl (SL.Pure.assign rfl rfl) ?_
  refine SL.OkH.done (by kernel_rfl) ?_
  refine SL.Ok.normThen ?_
  refine hK3 _ _ ?_
  refine SL.Ok.condF' rfl (by simp [h]) ?_
  refine SL.Ok.seq fun K4 hK4 => ?_
  refine SL.Ok.held [0, 1, 2] mixed rfl rfl ?_
  simp only [List.replicate, List.length_cons, List.length_nil, Nat.reduceAdd]
  refine SL.OkH.take 0 rfl rfl rfl rfl (by kernel_rfl) (by kernel_rfl) (by kernel_rfl) rfl (fun _ _ _ h => h) [0, 1, 2] rfl rfl (SL.Pure.fieldAddr (k := 38) rfl rfl (by kernel_rfl) rfl) ?_
  refine SL.OkH.take 1 rfl rfl rfl rfl (by kernel_rfl) (by kernel_rfl) (by kernel_rfl) rfl (fun _ _ _ h => h) [0, 1, 2] rfl rfl (by first | exact SL.Pure.load1 0 rfl rfl rfl rfl (by kernel_rfl) | exact SL.Pure.load1 1 rfl rfl rfl rfl (by kernel_rfl) | exact SL.Pure.load1 2 rfl rfl rfl rfl (by kernel_rfl)) ?_
  refine SL.OkH.take 2 rfl rfl rfl rfl (by kernel_rfl) (by kernel_rfl) (by kernel_rfl) rfl (fun _ _ _ h => h) [0, 1, 2] rfl rfl (SL.Pure.lenS rfl rfl rfl Tryz.underlying9) ?_
  refine SL.OkH.take 3 rfl rfl rfl rfl (by kernel_rfl) (by kernel_rfl) (by kernel_rfl) rfl (fun _ _ _ h => h) [0, 1, 2] rfl rfl (SL.Pure.move rfl rfl) ?_
  refine SL.OkH.take 4 rfl rfl rfl rfl (by kernel_rfl) (by kernel_rfl) (by kernel_rfl) rfl (fun _ _ _ h => h) [0, 1, 2] rfl rfl (SL.Pure.nilCheck rfl rfl) ?_
  refine SL.OkH.take 5 rfl rfl rfl rfl (by kernel_rfl) (by kernel_rfl) (by kernel_rfl) rfl (fun _ _ _ h => h) [0, 1, 2] rfl rfl (SL.Pure.fieldAddr (k := 32) rfl rfl (by kernel_rfl) rfl) ?_
  refine SL.OkH.take 6 rfl rfl rfl rfl (by kernel_rfl) (by kernel_rfl) (by kernel_rfl) rfl (fun _ _ _ h => h) [0, 1, 2] rfl rfl (by first | exact SL.Pure.load1 0 rfl rfl rfl rfl (by kernel_rfl) | exact SL.Pure.load1 1 rfl rfl rfl rfl (by kernel_rfl) | exact SL.Pure.load1 2 rfl rfl rfl rfl (by kernel_rfl)) ?_
  refine SL.OkH.take 7 rfl rfl rfl rfl (by kernel_rfl) (by kernel_rfl) (by kernel_rfl) rfl (fun _ _ _ h => h) [0, 1, 2] rfl rfl (SL.Pure.move rfl rfl) ?_
  refine SL.OkH.take 8 rfl rfl rfl rfl (by kernel_rfl) (by kernel_rfl) (by kernel_rfl) rfl (fun _ _ _ h => h) [0, 1, 2] rfl rfl (SL.Pure.nilCheck rfl rfl) ?_
  refine SL.OkH.take 9 rfl rfl rfl rfl (by kernel_rfl) (by kernel_rfl) (by kernel_rfl) rfl (fun _ _ _ h => h) [0, 1, 2] rfl rfl (SL.Pure.fieldAddr (k := 33) rfl rfl (by kernel_rfl) rfl) ?_
  refine SL.OkH.eff 10 rfl rfl (by kernel_rfl) rfl [0, 1, 2] (fun _ => rfl) rfl (SL.Eff.at rfl (SL.Eff.callV rfl rfl (by kernel_rfl) rfl rfl (fun w hM hK => bld_len b _ _ (rpre r.id r.size) (rpost r.fin) x.p x.a r.t.length x.c w (hM.blk (i := 1) rfl)))) ?_
  intro _ _
  try simp only [SL.setN, SL.putD, SL.selM, SL.nth, List.cons_append, List.nil_append]
  refine SL.OkH.take 11 rfl rfl rfl rfl (by kernel_rfl) (by kernel_rfl) (by kernel_rfl) rfl (fun _ _ _ h => h) [0, 1, 2] rfl rfl (SL.Pure.subI rfl rfl rfl rfl (by omega) (by omega)) ?_
  refine SL.OkH.take 12 rfl rfl rfl rfl (by kernel_rfl) (by kernel_rfl) (by kernel_rfl) rfl (fun _ _ _ h => h) [0, 1, 2] rfl rfl (SL.Pure.gtr rfl rfl rfl) ?_
  refine SL.OkH.take 13 rfl rfl rfl rfl (by kernel_rfl) (by kernel_rfl) (by kernel_rfl) rfl (fun _ _ _ h => h) [0, 1, 2] rfl rfl (SL.Pure.assign rfl rfl) ?_
  refine SL.OkH.done (by kernel_rfl) ?_
  refine SL.Ok.normThen ?_
  refine hK4 _ _ ?_
  refine SL.Ok.condF' rfl (by simp; omega) ?_
  refine SL.Ok.skip' ?_
  refine SL.Ok.normBlock ?_
  refine SL.Ok.normThen ?_
  refine hK2 _ _ ?_
  refine SL.Ok.seq fun K5 hK5 => ?_
  refine SL.Ok.still 5 mixed (by kernel_rfl) rfl rfl (fun wd5 => ?_)
  refine SL.OkS.op rfl rfl rfl (SL.Pure.move rfl rfl) ?_
  refine SL.OkS.op rfl rfl rfl (SL.Pure.nilCheck rfl rfl) ?_
  refine SL.OkS.op rfl rfl rfl (SL.Pure.fieldAddr (k := 33) rfl rfl (by kernel_rfl) rfl) ?_
  refine SL.OkS.op rfl rfl rfl (SL.Pure.fieldAddr (k := 38) rfl rfl (by kernel_rfl) rfl) ?_
  refine SL.OkS.op rfl rfl rfl (by first | exact SL.Pure.load1 0 rfl rfl rfl rfl (by kernel_rfl) | exact SL.Pure.load1 1 rfl rfl rfl rfl (by kernel_rfl) | exact SL.Pure.load1 2 rfl rfl rfl rfl (by kernel_rfl)) ?_
  refine SL.OkS.tail ?_
  refine SL.Ok.eff rfl (SL.Eff.call [1, 2] [0] rfl rfl (by kernel_rfl) rfl rfl rfl rfl (fun w hM hK => bld_write b _ (rpre r.id r.size) (rpost r.fin) rfl x.p x.a r.t.length x.c (bytesV r.t) t hok.1 hok.2 (by omega) w (rlies _ _ _ _ _ (by rw [flat_size]; rfl) rfl) (hM.sel [1, 2] rfl).own)) ?_
  intro y hy
  try simp only [SL.setN, SL.putD, SL.selM, SL.nth, List.cons_append, List.nil_append]
  refine SL.Ok.nil ?_
  refine SL.Ok.normThen ?_
  refine hK5 _ _ ?_
  refine SL.Ok.seq fun K6 hK6 => ?_
  refine SL.Ok.region ?_
  refine SL.Ok.op rfl rfl rfl (SL.Pure.assign rfl rfl) ?_
  refine SL.Ok.nil ?_
  refine SL.Ok.normThen ?_
  refine hK6 _ _ ?_
  refine SL.Ok.ret SL.retHere (SL.resL rfl (.cons (.tmp rfl) .nil) rfl) (fun w' hM' hK' => ?_)
  have hM2 := hM'.sel [0, 1] rfl
  simp only [SL.selM, SL.nth, ← bytesV_append] at hM2
  refine ⟨⟨some ⟨b, 33, none⟩, y.1, y.2⟩, ⟨.inr rfl, by simpa using hy⟩, rfl, hK', ?_⟩
  have e : (r.t ++ t).length = r.t.length + t.length := List.length_append
  show Mem _ _ [.blk b (.cells (flat (bsegs (rpre r.id r.size) (some ⟨b, 33, none⟩) y.1 (r.t ++ t).length y.2 (rpost r.fin))) 54 (0, 0)), .row (.slice y.1 (r.t ++ t).length y.2) 5 1 (r.t ++ t).length (bytesV (r.t ++ t))] w'
  rw [e]
  exact hM2

theorem done_short (b : Nat) (r : RS) (x : BX) (v : Int) (i : B 32) (f : Int) (t : List UInt8) (h : (r.t.length : Int) < r.size) (w : World) (hb : w.heap[b]? = some (.cells (flat (rsg r x)) 54 (0, 0))) :
    Calls Tryz.prog 29 [.pointer (some ⟨b, 0, none⟩), .agg (flat (ccmd v i f t))].toArray w fun e w' => e = .returned (.int .i64 4) ∧ Keeps none1 w w' := by
  refine SL.calls_ok (n := 17) (W := SL.none1) (m := []) Tryz.func29 rfl Tryz.ntmps29 rfl (SL.Mem.nil _ _ _) ?_
  simp only [SL.enum, Nat.reduceAdd]
  refine SL.Ok.seq fun K1 hK1 => ?_
  refine SL.Ok.region ?_
  refine SL.Ok.eff rfl (SL.Eff.box _ rfl rfl rfl rfl rfl) ?_
  intro b3 _
  try simp only [SL.setN, SL.putD, SL.selM, SL.nth, List.cons_append, List.nil_append]
  refine SL.Ok.op rfl rfl rfl (SL.Pure.assign rfl rfl) ?_
  refine SL.Ok.nil ?_
  refine SL.Ok.normThen ?_
  refine hK1 _ _ ?_
  refine SL.Ok.seq fun K2 hK2 => ?_
  refine SL.Ok.seq fun K3 hK3 => ?_
  refine SL.Ok.held [0] mixed rfl rfl ?_
  simp only [List.replicate, List.length_cons, List.length_nil, Nat.reduceAdd]
  refine SL.OkH.take 0 rfl rfl rfl rfl (by kernel_rfl) (by kernel_rfl) (by kernel_rfl) rfl (fun _ _ _ h => h) [0] rfl rfl (SL.Pure.move rfl rfl) ?_
  refine SL.OkH.take 1 rfl rfl rfl rfl (by kernel_rfl) (by kernel_rfl) (by kernel_rfl) rfl (fun _ _ _ h => h) [0] rfl rfl (SL.Pure.nilCheck rfl rfl) ?_
  refine SL.OkH.take 2 rfl rfl rfl rfl (by kernel_rfl) (by kernel_rfl) (by kernel_rfl) rfl (fun _ _ _ h => h) [0] rfl rfl (SL.Pure.fieldAddr (k := 33) rfl rfl (by kernel_rfl) rfl) ?_
  refine SL.OkH.take 4 rfl rfl rfl rfl (by kernel_rfl) (by kernel_rfl) (by kernel_rfl) rfl (fun _ _ _ h => h) [0] rfl rfl (SL.Pure.move rfl rfl) ?_
  refine SL.OkH.take 5 rfl rfl rfl rfl (by kernel_rfl) (by kernel_rfl) (by kernel_rfl) rfl (fun _ _ _ h => h) [0] rfl rfl (SL.Pure.nilCheck rfl rfl) ?_
  refine SL.OkH.take 6 rfl rfl rfl rfl (by kernel_rfl) (by kernel_rfl) (by kernel_rfl) rfl (fun _ _ _ h => h) [0] rfl rfl (SL.Pure.fieldAddr (k := 32) rfl rfl (by kernel_rfl) rfl) ?_
  refine SL.OkH.take 7 rfl rfl rfl rfl (by kernel_rfl) (by kernel_rfl) (by kernel_rfl) rfl (fun _ _ _ h => h) [0] rfl rfl (by first | exact SL.Pure.loadO1 hb (fun h => h) rfl rfl rfl (by kernel_rfl) | exact SL.Pure.load1 0 rfl rfl rfl rfl (by kernel_rfl)) ?_
  refine SL.OkH.eff 3 rfl rfl (by kernel_rfl) rfl [0] (fun _ => rfl) rfl (SL.Eff.at rfl (SL.Eff.callV rfl rfl (by kernel_rfl) rfl rfl (fun w hM hK => bld_len b _ _ (rpre r.id r.size) (rpost r.fin) x.p x.a r.t.length x.c w (hK.old hb (fun h => h))))) ?_
  intro _ _
  try simp only [SL.setN, SL.putD, SL.selM, SL.nth, List.cons_append, List.nil_append]
  refine SL.OkH.take 8 rfl rfl rfl rfl (by kernel_rfl) (by kernel_rfl) (by kernel_rfl) rfl (fun _ _ _ h => h) [0] rfl rfl (SL.Pure.lss rfl rfl rfl) ?_
  refine SL.OkH.done (by kernel_rfl) ?_
  refine SL.Ok.normThen ?_
  refine hK3 _ _ ?_
  refine SL.Ok.condT' rfl (by simpa using h) ?_
  refine SL.Ok.seq fun K4 hK4 => ?_
  refine SL.Ok.region ?_
  refine SL.Ok.op rfl rfl rfl (SL.Pure.assign rfl rfl) ?_
  refine SL.Ok.nil ?_
  refine SL.Ok.normThen ?_
  refine hK4 _ _ ?_
  refine SL.Ok.ret (SL.retThen SL.retHere) (SL.resL rfl (.cons (.tmp rfl) .nil) rfl) (fun w' hM' hK' => ?_)
  exact ⟨rfl, hK'⟩

theorem done_ok (b : Nat) (r : RS) (x : BX) (hok : rok b r x) (v : Int) (i : B 32) (f : Int) (t : List UInt8) (h : ¬ (r.t.length : Int) < r.size) (w : World) (hm : Mem (blocksOf (rmem b r x)) w (rmem b r x) w) :
    Calls Tryz.prog 29 [.pointer (some ⟨b, 0, none⟩), .agg (flat (ccmd v i f t))].toArray w fun e w' => ∃ y : BX, rok b { r with fin := true } y ∧ e = .returned (.int .i64 0) ∧ Post w (blocksOf (rmem b r x)) (rmem b { r with fin := true } y) w' := by
  refine SL.calls_ok (n := 17) (W := (blocksOf (rmem b r x))) (m := rmem b r x) Tryz.func29 rfl Tryz.ntmps29 rfl hm ?_
  simp only [SL.enum, Nat.reduceAdd]
  refine SL.Ok.seq fun K1 hK1 => ?_
  refine SL.Ok.region ?_
  refine SL.Ok.eff rfl (SL.Eff.box _ rfl rfl rfl rfl rfl) ?_
  intro b3 _
  try simp only [SL.setN, SL.putD, SL.selM, SL.nth, List.cons_append, List.nil_append]
  refine SL.Ok.op rfl rfl rfl (SL.Pure.assign rfl rfl) ?_
  refine SL.Ok.nil ?_
  refine SL.Ok.normThen ?_
  refine hK1 _ _ ?_
  refine SL.Ok.seq fun K2 hK2 => ?_
  refine SL.Ok.seq fun K3 hK3 => ?_
  refine SL.Ok.held [0, 1, 2] mixed rfl rfl ?_
  simp only [List.replicate, List.length_cons, List.length_nil, Nat.reduceAdd]
  refine SL.OkH.take 0 rfl rfl rfl rfl (by kernel_rfl) (by kernel_rfl) (by kernel_rfl) rfl (fun _ _ _ h => h) [0, 1, 2] rfl rfl (SL.Pure.move rfl rfl) ?_
  refine SL.OkH.take 1 rfl rfl rfl rfl (by kernel_rfl) (by kernel_rfl) (by kernel_rfl) rfl (fun _ _ _ h => h) [0, 1, 2] rfl rfl (SL.Pure.nilCheck rfl rfl) ?_
  refine SL.OkH.take 2 rfl rfl rfl rfl (by kernel_rfl) (by kernel_rfl) (by kernel_rfl) rfl (fun _ _ _ h => h) [0, 1, 2] rfl rfl (SL.Pure.fieldAddr (k := 33) rfl rfl (by kernel_rfl) rfl) ?_
  refine SL.OkH.take 4 rfl rfl rfl rfl (by kernel_rfl) (by kernel_rfl) (by kernel_rfl) rfl (fun _ _ _ h => h) [0, 1, 2] rfl rfl (SL.Pure.move rfl rfl) ?_
  refine SL.OkH.take 5 rfl rfl rfl rfl (by kernel_rfl) (by kernel_rfl) (by kernel_rfl) rfl (fun _ _ _ h => h) [0, 1, 2] rfl rfl (SL.Pure.nilCheck rfl rfl) ?_
  refine SL.OkH.take 6 rfl rfl rfl rfl (by kernel_rfl) (by kernel_rfl) (by kernel_rfl) rfl (fun _ _ _ h => h) [0, 1, 2] rfl rfl (SL.Pure.fieldAddr (k := 32) rfl rfl (by kernel_rfl) rfl) ?_
  refine SL.OkH.take 7 rfl rfl rfl rfl (by kernel_rfl) (by kernel_rfl) (by kernel_rfl) rfl (fun _ _ _ h => h) [0, 1, 2] rfl rfl (by first | exact SL.Pure.load1 0 rfl rfl rfl rfl (by kernel_rfl) | exact SL.Pure.load1 1 rfl rfl rfl rfl (by kernel_rfl) | exact SL.Pure.load1 2 rfl rfl rfl rfl (by kernel_rfl)) ?_
  refine SL.OkH.eff 3 rfl rfl (by kernel_rfl) rfl [0, 1, 2] (fun _ => rfl) rfl (SL.Eff.at rfl (SL.Eff.callV rfl rfl (by kernel_rfl) rfl rfl (fun w hM hK => bld_len b _ _ (rpre r.id r.size) (rpost r.fin) x.p x.a r.t.length x.c w (hM.blk (i := 1) rfl)))) ?_
  intro _ _
  try simp only [SL.setN, SL.putD, SL.selM, SL.nth, List.cons_append, List.nil_append]
  refine SL.OkH.take 8 rfl rfl rfl rfl (by kernel_rfl) (by kernel_rfl) (by kernel_rfl) rfl (fun _ _ _ h => h) [0, 1, 2] rfl rfl (SL.Pure.lss rfl rfl rfl) ?_
  refine SL.OkH.done (by kernel_rfl) ?_
  refine SL.Ok.normThen ?_
  refine hK3 _ _ ?_
  refine SL.Ok.condF' rfl (by simpa using h) ?_
  refine SL.Ok.skip' ?_
  refine SL.Ok.normThen ?_
  refine hK2 _ _ ?_
  refine SL.Ok.seq fun K4 hK4 => ?_
  refine SL.Ok.region ?_
  refine SL.Ok.op rfl rfl rfl (SL.Pure.move rfl rfl) ?_
  refine SL.Ok.op rfl rfl rfl (SL.Pure.nilCheck rfl rfl) ?_
  refine SL.Ok.op rfl rfl rfl (SL.Pure.fieldAddr (k := 35) rfl rfl (by kernel_rfl) rfl) ?_
  refine SL.Ok.eff rfl (by first | exact SL.Eff.storeG (k := 1) 0 [SL.Seg.one _ rfl] rfl rfl rfl rfl rfl rfl (by kernel_rfl) rfl rfl | exact SL.Eff.storeG (k := 1) 1 [SL.Seg.one _ rfl] rfl rfl rfl rfl rfl rfl (by kernel_rfl) rfl rfl | exact SL.Eff.storeG (k := 1) 2 [SL.Seg.one _ rfl] rfl rfl rfl rfl rfl rfl (by kernel_rfl) rfl rfl) ?_
  intro _ _
  try simp only [SL.setN, SL.putD, SL.selM, SL.nth, List.cons_append, List.nil_append]
  refine SL.Ok.nil ?_
  refine SL.Ok.normThen ?_
  refine hK4 _ _ ?_
  refine SL.Ok.seq fun K5 hK5 => ?_
  refine SL.Ok.region ?_
  refine SL.Ok.op rfl rfl rfl (SL.Pure.assign rfl rfl) ?_
  refine SL.Ok.nil ?_
  refine SL.Ok.normThen ?_
  refine hK5 _ _ ?_
  refine SL.Ok.ret SL.retHere (SL.resL rfl (.cons (.tmp rfl) .nil) rfl) (fun w' hM' hK' => ?_)
  exact ⟨x, hok, rfl, hK', hM'.sel [1, 2] rfl⟩

/-- what takers gives -/
abbrev tks (b : Nat) : List Seg := [Seg.one .nilFunc rfl, Seg.one .nilFunc rfl, Seg.one .nilFunc rfl, Seg.one .nilFunc rfl, Seg.one .nilFunc rfl, Seg.one .nilFunc rfl, Seg.one .nilFunc rfl,
  Seg.one (.func (.func 28) [.pointer (some ⟨b, 0, none⟩)].toArray #[]) rfl, Seg.one (.func (.func 29) [.pointer (some ⟨b, 0, none⟩)].toArray #[]) rfl, Seg.one .nilFunc rfl, Seg.one .nilFunc rfl, Seg.one .nilFunc rfl]

theorem takers_c (b : Nat) (w : World) :
    Calls Tryz.prog 21 [.pointer (some ⟨b, 0, none⟩)].toArray w fun e w' => e = .returned (.agg (flat (tks b))) ∧ Keeps none1 w w' := by
  refine SL.calls_ok (n := 8) (W := SL.none1) (m := []) Tryz.func21 rfl Tryz.ntmps21 rfl (SL.Mem.nil _ _ _) ?_
  simp only [SL.enum, Nat.reduceAdd]
  refine SL.Ok.seq fun K1 hK1 => ?_
  refine SL.Ok.region ?_
  refine SL.Ok.eff rfl (SL.Eff.alloc [Seg.one (.nilFunc) rfl, Seg.one (.nilFunc) rfl, Seg.one (.nilFunc) rfl, Seg.one (.nilFunc) rfl, Seg.one (.nilFunc) rfl, Seg.one (.nilFunc) rfl, Seg.one (.nilFunc) rfl, Seg.one (.nilFunc) rfl, Seg.one (.nilFunc) rfl, Seg.one (.nilFunc) rfl, Seg.one (.nilFunc) rfl, Seg.one (.nilFunc) rfl] rfl rfl rfl (by kernel_rfl)) ?_
  intro b2 _
  try simp only [SL.setN, SL.putD, SL.selM, SL.nth, List.cons_append, List.nil_append]
  refine SL.Ok.nil ?_
  refine SL.Ok.normThen ?_
  refine hK1 _ _ ?_
  refine SL.Ok.seq fun K2 hK2 => ?_
  refine SL.Ok.region ?_
  refine SL.Ok.op rfl rfl rfl (SL.Pure.move rfl rfl) ?_
  refine SL.Ok.op rfl rfl rfl (SL.Pure.makeFunc rfl rfl) ?_
  refine SL.Ok.op rfl rfl rfl (SL.Pure.move rfl rfl) ?_
  refine SL.Ok.op rfl rfl rfl (SL.Pure.makeFunc rfl rfl) ?_
  refine SL.Ok.op rfl rfl rfl (SL.Pure.build [(0, 1), (1, 1), (2, 1), (3, 1), (4, 1), (5, 1), (6, 1), (7, 1), (8, 1), (9, 1), (10, 1), (11, 1)] [Seg.one (.nilFunc) rfl, Seg.one (.nilFunc) rfl, Seg.one (.nilFunc) rfl, Seg.one (.nilFunc) rfl, Seg.one (.nilFunc) rfl, Seg.one (.nilFunc) rfl, Seg.one (.nilFunc) rfl, Seg.one (.nilFunc) rfl, Seg.one (.nilFunc) rfl, Seg.one (.nilFunc) rfl, Seg.one (.nilFunc) rfl, Seg.one (.nilFunc) rfl] rfl rfl (.cons (.one rfl) (.cons (.one rfl) .nil)) (by kernel_rfl) (by kernel_rfl) rfl) ?_
  refine SL.Ok.eff rfl (by first | exact SL.Eff.storeG (k := 12) 0 _ rfl rfl rfl rfl rfl rfl (by kernel_rfl) rfl rfl) ?_
  intro _ _
  try simp only [SL.setN, SL.putD, SL.selM, SL.nth, List.cons_append, List.nil_append]
  refine SL.Ok.nil ?_
  refine SL.Ok.normThen ?_
  refine hK2 _ _ ?_
  refine SL.Ok.ret SL.retHere (SL.resL rfl (.cons (SL.RV.cellA 0 (k := 12) rfl rfl (by kernel_rfl) rfl (by kernel_rfl)) .nil) rfl) (fun w' hM' hK' => ?_)
  exact ⟨rfl, hK'⟩

theorem tks_nil (b : Nat) {v : Int} (h0 : 0 ≤ v) (h1 : v < 12) (h7 : v ≠ 7) (h8 : v ≠ 8) : at1 (tks b) (0 + v.toNat * 1) = some .nilFunc := by
  obtain ⟨k, rfl⟩ := Int.eq_ofNat_of_zero_le h0
  have h1' : k < 12 := by omega
  have h7' : k ≠ 7 := by omega
  have h8' : k ≠ 8 := by omega
  clear h0 h1 h7 h8
  rw [Int.toNat_natCast]
  rcases k with _ | _ | _ | _ | _ | _ | _ | _ | _ | _ | _ | _ | k <;> first | rfl | omega

end Go.Proofs.YtehjohfpegbhmaaGreatDoor
