/- Contracts of package transfer: Hear, Clone, Equal. -/
import Derived.Test.YtehjohfpegbhmaaGreatDoorTr3
namespace Go.Proofs.YtehjohfpegbhmaaGreatDoor
open Go.SL Go.RowKit
set_option linter.unusedVariables false
set_option maxRecDepth 100000
set_option linter.unusedSimpArgs false

theorem hear_c_fin (b : Nat) (r : RS) (x : BX) (v : Int) (i : B 32) (f : Int) (t : List UInt8) (h : r.fin = true) (w : World) (hb : w.heap[b]? = some (.cells (flat (rsg r x)) 54 (0, 0))) :
    Calls Tryz.prog 11 [.pointer (some ⟨b, 0, none⟩), .agg (flat (ccmd v i f t))].toArray w fun e w' => e = .returned (.int .i64 10) ∧ Keeps none1 w w' := by
  refine SL.calls_ok (n := 44) (W := SL.none1) (m := []) Tryz.func11 rfl Tryz.ntmps11 rfl (SL.Mem.nil _ _ _) ?_
  simp only [SL.enum, Nat.reduceAdd]
  refine SL.Ok.seq fun K1 hK1 => ?_
  refine SL.Ok.region ?_
  refine SL.Ok.eff rfl (SL.Eff.box _ rfl rfl rfl rfl rfl) ?_
  intro b3 _
  try simp only [SL.setN, SL.putD, SL.selM, SL.nth, List.cons_append, List.nil_append]
  refine SL.Ok.op rfl rfl rfl (SL.Pure.assign rfl rfl) ?_
  refine SL.Ok.nil ?_
  refine SL.Ok.normThen ?_
  refine hK1 _ _ ?_
  refine SL.Ok.seq fun K2 hK2 => ?_
  refine SL.Ok.seq fun K3 hK3 => ?_
  refine SL.Ok.region ?_
  refine SL.Ok.op rfl rfl rfl (SL.Pure.move rfl rfl) ?_
  refine SL.Ok.op rfl rfl rfl (SL.Pure.eqNil rfl rfl rfl Tryz.underlying28) ?_
  refine SL.Ok.nil ?_
  refine SL.Ok.normThen ?_
  refine hK3 _ _ ?_
  refine SL.Ok.condF' rfl (rfl) ?_
  refine SL.Ok.skip' ?_
  refine SL.Ok.normThen ?_
  refine hK2 _ _ ?_
  refine SL.Ok.seq fun K4 hK4 => ?_
  refine SL.Ok.seq fun K5 hK5 => ?_
  refine SL.Ok.region ?_
  refine SL.Ok.op rfl rfl rfl (SL.Pure.move rfl rfl) ?_
  refine SL.Ok.op rfl rfl rfl (SL.Pure.nilCheck rfl rfl) ?_
  refine SL.Ok.op rfl rfl rfl (SL.Pure.fieldAddr (k := 35) rfl rfl (by kernel_rfl) rfl) ?_
  refine SL.Ok.op rfl rfl rfl (by first | exact SL.Pure.loadO1 hb (fun h => h) rfl rfl rfl (by kernel_rfl) | exact SL.Pure.load1 0 rfl rfl rfl rfl (by kernel_rfl)) ?_
  refine SL.Ok.nil ?_
  refine SL.Ok.normThen ?_
  refine hK5 _ _ ?_
  refine SL.Ok.condT' rfl (h) ?_
  refine SL.Ok.seq fun K6 hK6 => ?_
  refine SL.Ok.region ?_
  refine SL.Ok.op rfl rfl rfl (SL.Pure.assign rfl rfl) ?_
  refine SL.Ok.nil ?_
  refine SL.Ok.normThen ?_
  refine hK6 _ _ ?_
  refine SL.Ok.ret (SL.retThen SL.retHere) (SL.resL rfl (.cons (.tmp rfl) .nil) rfl) (fun w' hM' hK' => ?_)
  exact ⟨rfl, hK'⟩

theorem hear_c_kind (b : Nat) (r : RS) (x : BX) (v : Int) (i : B 32) (f : Int) (t : List UInt8) (h : r.fin = false) (h7 : v ≠ 7) (h8 : v ≠ 8) (w : World) (hb : w.heap[b]? = some (.cells (flat (rsg r x)) 54 (0, 0))) :
    Calls Tryz.prog 11 [.pointer (some ⟨b, 0, none⟩), .agg (flat (ccmd v i f t))].toArray w fun e w' => e = .returned (.int .i64 11) ∧ Keeps none1 w w' := by
  by_cases h0 : v < 0
  · skip
    refine SL.calls_ok (n := 44) (W := SL.none1) (m := []) Tryz.func11 rfl Tryz.ntmps11 rfl (SL.Mem.nil _ _ _) ?_
    simp only [SL.enum, Nat.reduceAdd]
    refine SL.Ok.seq fun K1 hK1 => ?_
    refine SL.Ok.region ?_
    refine SL.Ok.eff rfl (SL.Eff.box _ rfl rfl rfl rfl rfl) ?_
    intro b3 _
    try simp only [SL.setN, SL.putD, SL.selM, SL.nth, List.cons_append, List.nil_append]
    refine SL.Ok.op rfl rfl rfl (SL.Pure.assign rfl rfl) ?_
    refine SL.Ok.nil ?_
    refine SL.Ok.normThen ?_
    refine hK1 _ _ ?_
    refine SL.Ok.seq fun K2 hK2 => ?_
    refine SL.Ok.seq fun K3 hK3 => ?_
    refine SL.Ok.region ?_
    refine SL.Ok.op rfl rfl rfl (SL.Pure.move rfl rfl) ?_
    refine SL.Ok.op rfl rfl rfl (SL.Pure.eqNil rfl rfl rfl Tryz.underlying28) ?_
    refine SL.Ok.nil ?_
    refine SL.Ok.normThen ?_
    refine hK3 _ _ ?_
    refine SL.Ok.condF' rfl (rfl) ?_
    refine SL.Ok.skip' ?_
    refine SL.Ok.normThen ?_
    refine hK2 _ _ ?_
    refine SL.Ok.seq fun K4 hK4 => ?_
    refine SL.Ok.seq fun K5 hK5 => ?_
    refine SL.Ok.region ?_
    refine SL.Ok.op rfl rfl rfl (SL.Pure.move rfl rfl) ?_
    refine SL.Ok.op rfl rfl rfl (SL.Pure.nilCheck rfl rfl) ?_
    refine SL.Ok.op rfl rfl rfl (SL.Pure.fieldAddr (k := 35) rfl rfl (by kernel_rfl) rfl) ?_
    refine SL.Ok.op rfl rfl rfl (by first | exact SL.Pure.loadO1 hb (fun h => h) rfl rfl rfl (by kernel_rfl) | exact SL.Pure.load1 0 rfl rfl rfl rfl (by kernel_rfl)) ?_
    refine SL.Ok.nil ?_
    refine SL.Ok.normThen ?_
    refine hK5 _ _ ?_
    refine SL.Ok.condF' rfl (h) ?_
    refine SL.Ok.skip' ?_
    refine SL.Ok.normThen ?_
    refine hK4 _ _ ?_
    refine SL.Ok.seq fun K6 hK6 => ?_
    refine SL.Ok.region ?_
    refine SL.Ok.op rfl rfl rfl (SL.Pure.move rfl rfl) ?_
    refine SL.Ok.eff rfl (SL.Eff.callV rfl rfl (by kernel_rfl) rfl rfl (fun w hM hK => takers_c b w)) ?_
    intro _ _
    try simp only [SL.setN, SL.putD, SL.selM, SL.nth, List.cons_append, List.nil_append]
    refine SL.Ok.eff rfl (SL.Eff.alloc [Seg.one (.nilFunc) rfl, Seg.one (.nilFunc) rfl, Seg.one (.nilFunc) rfl, Seg.one (.nilFunc) rfl, Seg.one (.nilFunc) rfl, Seg.one (.nilFunc) rfl, Seg.one (.nilFunc) rfl, Seg.one (.nilFunc) rfl, Seg.one (.nilFunc) rfl, Seg.one (.nilFunc) rfl, Seg.one (.nilFunc) rfl, Seg.one (.nilFunc) rfl] rfl rfl rfl (by kernel_rfl)) ?_
    intro b5 _
    try simp only [SL.setN, SL.putD, SL.selM, SL.nth, List.cons_append, List.nil_append]
    refine SL.Ok.eff rfl (by first | exact SL.Eff.storeG (k := 12) 0 _ rfl rfl rfl rfl rfl rfl (by kernel_rfl) rfl rfl | exact SL.Eff.storeG (k := 12) 1 _ rfl rfl rfl rfl rfl rfl (by kernel_rfl) rfl rfl) ?_
    intro _ _
    try simp only [SL.setN, SL.putD, SL.selM, SL.nth, List.cons_append, List.nil_append]
    refine SL.Ok.nil ?_
    refine SL.Ok.normThen ?_
    refine hK6 _ _ ?_
    refine SL.Ok.seq fun K7 hK7 => ?_
    refine SL.Ok.block ?_
    refine SL.Ok.seq fun K8 hK8 => ?_
    refine SL.Ok.region ?_
    refine SL.Ok.op rfl rfl rfl (SL.Pure.fieldAddr (k := 0) rfl rfl (by kernel_rfl) rfl) ?_
    refine SL.Ok.op rfl rfl rfl (by first | exact SL.Pure.loadO1 hb (fun h => h) rfl rfl rfl (by kernel_rfl) | exact SL.Pure.load1 0 rfl rfl rfl rfl (by kernel_rfl) | exact SL.Pure.load1 1 rfl rfl rfl rfl (by kernel_rfl)) ?_
    refine SL.Ok.op rfl rfl rfl (SL.Pure.lss rfl rfl rfl) ?_
    refine SL.Ok.op rfl rfl rfl (SL.Pure.move rfl rfl) ?_
    refine SL.Ok.setT (d := 18) rfl (by simp; omega) ?_
    refine SL.Ok.opS rfl rfl rfl rfl rfl rfl rfl ?_
    refine SL.Ok.opS rfl rfl rfl rfl rfl rfl rfl ?_
    refine SL.Ok.opS rfl rfl rfl rfl rfl rfl rfl ?_
    refine SL.Ok.op rfl rfl rfl (SL.Pure.pickT rfl rfl rfl) ?_
    refine SL.Ok.op rfl rfl rfl (SL.Pure.move rfl rfl) ?_
    refine SL.Ok.opS rfl rfl rfl rfl rfl rfl rfl ?_
    refine SL.Ok.opS rfl rfl rfl rfl rfl rfl rfl ?_
    refine SL.Ok.opS rfl rfl rfl rfl rfl rfl rfl ?_
    refine SL.Ok.opS rfl rfl rfl rfl rfl rfl rfl ?_
    refine SL.Ok.opS rfl rfl rfl rfl rfl rfl rfl ?_
    refine SL.Ok.op rfl rfl rfl (SL.Pure.pickT rfl rfl rfl) ?_
    refine SL.Ok.op rfl rfl rfl (SL.Pure.assign rfl rfl) ?_
    refine SL.Ok.nil ?_
    refine SL.Ok.normThen ?_
    refine hK8 _ _ ?_
    refine SL.Ok.condT rfl ?_
    refine SL.Ok.seq fun K9 hK9 => ?_
    refine SL.Ok.region ?_
    refine SL.Ok.op rfl rfl rfl (SL.Pure.assign rfl rfl) ?_
    refine SL.Ok.nil ?_
    refine SL.Ok.normThen ?_
    refine hK9 _ _ ?_
    refine SL.Ok.ret (SL.retBlock (SL.retThen SL.retHere)) (SL.resL rfl (.cons (.tmp rfl) .nil) rfl) (fun w' hM' hK' => ?_)
    exact ⟨rfl, hK'⟩
  by_cases h1 : 12 ≤ v
  · skip
    refine SL.calls_ok (n := 44) (W := SL.none1) (m := []) Tryz.func11 rfl Tryz.ntmps11 rfl (SL.Mem.nil _ _ _) ?_
    simp only [SL.enum, Nat.reduceAdd]
    refine SL.Ok.seq fun K1 hK1 => ?_
    refine SL.Ok.region ?_
    refine SL.Ok.eff rfl (SL.Eff.box _ rfl rfl rfl rfl rfl) ?_
    intro b3 _
    try simp only [SL.setN, SL.putD, SL.selM, SL.nth, List.cons_append, List.nil_append]
    refine SL.Ok.op rfl rfl rfl (SL.Pure.assign rfl rfl) ?_
    refine SL.Ok.nil ?_
    refine SL.Ok.normThen ?_
    refine hK1 _ _ ?_
    refine SL.Ok.seq fun K2 hK2 => ?_
    refine SL.Ok.seq fun K3 hK3 => ?_
    refine SL.Ok.region ?_
    refine SL.Ok.op rfl rfl rfl (SL.Pure.move rfl rfl) ?_
    refine SL.Ok.op rfl rfl rfl (SL.Pure.eqNil rfl rfl rfl Tryz.underlying28) ?_
    refine SL.Ok.nil ?_
    refine SL.Ok.normThen ?_
    refine hK3 _ _ ?_
    refine SL.Ok.condF' rfl (rfl) ?_
    refine SL.Ok.skip' ?_
    refine SL.Ok.normThen ?_
    refine hK2 _ _ ?_
    refine SL.Ok.seq fun K4 hK4 => ?_
    refine SL.Ok.seq fun K5 hK5 => ?_
    refine SL.Ok.region ?_
    refine SL.Ok.op rfl rfl rfl (SL.Pure.move rfl rfl) ?_
    refine SL.Ok.op rfl rfl rfl (SL.Pure.nilCheck rfl rfl) ?_
    refine SL.Ok.op rfl rfl rfl (SL.Pure.fieldAddr (k := 35) rfl rfl (by kernel_rfl) rfl) ?_
    refine SL.Ok.op rfl rfl rfl (by first | exact SL.Pure.loadO1 hb (fun h => h) rfl rfl rfl (by kernel_rfl) | exact SL.Pure.load1 0 rfl rfl rfl rfl (by kernel_rfl)) ?_
    refine SL.Ok.nil ?_
    refine SL.Ok.normThen ?_
    refine hK5 _ _ ?_
    refine SL.Ok.condF' rfl (h) ?_
    refine SL.Ok.skip' ?_
    refine SL.Ok.normThen ?_
    refine hK4 _ _ ?_
    refine SL.Ok.seq fun K6 hK6 => ?_
    refine SL.Ok.region ?_
    refine SL.Ok.op rfl rfl rfl (SL.Pure.move rfl rfl) ?_
    refine SL.Ok.eff rfl (SL.Eff.callV rfl rfl (by kernel_rfl) rfl rfl (fun w hM hK => takers_c b w)) ?_
    intro _ _
    try simp only [SL.setN, SL.putD, SL.selM, SL.nth, List.cons_append, List.nil_append]
    refine SL.Ok.eff rfl (SL.Eff.alloc [Seg.one (.nilFunc) rfl, Seg.one (.nilFunc) rfl, Seg.one (.nilFunc) rfl, Seg.one (.nilFunc) rfl, Seg.one (.nilFunc) rfl, Seg.one (.nilFunc) rfl, Seg.one (.nilFunc) rfl, Seg.one (.nilFunc) rfl, Seg.one (.nilFunc) rfl, Seg.one (.nilFunc) rfl, Seg.one (.nilFunc) rfl, Seg.one (.nilFunc) rfl] rfl rfl rfl (by kernel_rfl)) ?_
    intro b5 _
    try simp only [SL.setN, SL.putD, SL.selM, SL.nth, List.cons_append, List.nil_append]
    refine SL.Ok.eff rfl (by first | exact SL.Eff.storeG (k := 12) 0 _ rfl rfl rfl rfl rfl rfl (by kernel_rfl) rfl rfl | exact SL.Eff.storeG (k := 12) 1 _ rfl rfl rfl rfl rfl rfl (by kernel_rfl) rfl rfl) ?_
    intro _ _
    try simp only [SL.setN, SL.putD, SL.selM, SL.nth, List.cons_append, List.nil_append]
    refine SL.Ok.nil ?_
    refine SL.Ok.normThen ?_
    refine hK6 _ _ ?_
    refine SL.Ok.seq fun K7 hK7 => ?_
    refine SL.Ok.block ?_
    refine SL.Ok.seq fun K8 hK8 => ?_
    refine SL.Ok.region ?_
    refine SL.Ok.op rfl rfl rfl (SL.Pure.fieldAddr (k := 0) rfl rfl (by kernel_rfl) rfl) ?_
    refine SL.Ok.op rfl rfl rfl (by first | exact SL.Pure.loadO1 hb (fun h => h) rfl rfl rfl (by kernel_rfl) | exact SL.Pure.load1 0 rfl rfl rfl rfl (by kernel_rfl) | exact SL.Pure.load1 1 rfl rfl rfl rfl (by kernel_rfl)) ?_
    refine SL.Ok.op rfl rfl rfl (SL.Pure.lss rfl rfl rfl) ?_
    refine SL.Ok.op rfl rfl rfl (SL.Pure.move rfl rfl) ?_
    refine SL.Ok.setF (d := 18) rfl (by simp; omega) ?_
    refine SL.Ok.opG rfl rfl rfl rfl rfl rfl rfl (SL.Pure.fieldAddr (k := 0) rfl rfl (by kernel_rfl) rfl) ?_
    refine SL.Ok.opG rfl rfl rfl rfl rfl rfl rfl (by first | exact SL.Pure.loadO1 hb (fun h => h) rfl rfl rfl (by kernel_rfl) | exact SL.Pure.load1 0 rfl rfl rfl rfl (by kernel_rfl) | exact SL.Pure.load1 1 rfl rfl rfl rfl (by kernel_rfl)) ?_
    refine SL.Ok.opG rfl rfl rfl rfl rfl rfl rfl (SL.Pure.geq rfl rfl rfl) ?_
    refine SL.Ok.op rfl rfl rfl (SL.Pure.pickF rfl rfl rfl) ?_
    refine SL.Ok.op rfl rfl rfl (SL.Pure.move rfl rfl) ?_
    refine SL.Ok.setT (d := 23) rfl (by simp; omega) ?_
    refine SL.Ok.opS rfl rfl rfl rfl rfl rfl rfl ?_
    refine SL.Ok.opS rfl rfl rfl rfl rfl rfl rfl ?_
    refine SL.Ok.opS rfl rfl rfl rfl rfl rfl rfl ?_
    refine SL.Ok.opS rfl rfl rfl rfl rfl rfl rfl ?_
    refine SL.Ok.opS rfl rfl rfl rfl rfl rfl rfl ?_
    refine SL.Ok.op rfl rfl rfl (SL.Pure.pickT rfl rfl rfl) ?_
    refine SL.Ok.op rfl rfl rfl (SL.Pure.assign rfl rfl) ?_
    refine SL.Ok.nil ?_
    refine SL.Ok.normThen ?_
    refine hK8 _ _ ?_
    refine SL.Ok.condT rfl ?_
    refine SL.Ok.seq fun K9 hK9 => ?_
    refine SL.Ok.region ?_
    refine SL.Ok.op rfl rfl rfl (SL.Pure.assign rfl rfl) ?_
    refine SL.Ok.nil ?_
    refine SL.Ok.normThen ?_
    refine hK9 _ _ ?_
    refine SL.Ok.ret (SL.retBlock (SL.retThen SL.retHere)) (SL.resL rfl (.cons (.tmp rfl) .nil) rfl) (fun w' hM' hK' => ?_)
    exact ⟨rfl, hK'⟩
  refine SL.calls_ok (n := 44) (W := SL.none1) (m := []) Tryz.func11 rfl Tryz.ntmps11 rfl (SL.Mem.nil _ _ _) ?_
  simp only [SL.enum, Nat.reduceAdd]
  refine SL.Ok.seq fun K1 hK1 => ?_
  refine SL.Ok.region ?_
  refine SL.Ok.eff rfl (SL.Eff.box _ rfl rfl rfl rfl rfl) ?_
  intro b3 _
  try simp only [SL.setN, SL.putD, SL.selM, SL.nth, List.cons_append, List.nil_append]
  refine SL.Ok.op rfl rfl rfl (SL.Pure.assign rfl rfl) ?_
  refine SL.Ok.nil ?_
  refine SL.Ok.normThen ?_
  refine hK1 _ _ ?_
  refine SL.Ok.seq fun K2 hK2 => ?_
  refine SL.Ok.seq fun K3 hK3 => ?_
  refine SL.Ok.region ?_
  refine SL.Ok.op rfl rfl rfl (SL.Pure.move rfl rfl) ?_
  refine SL.Ok.op rfl rfl rfl (SL.Pure.eqNil rfl rfl rfl Tryz.underlying28) ?_
  refine SL.Ok.nil ?_
  refine SL.Ok.normThen ?_
  refine hK3 _ _ ?_
  refine SL.Ok.condF' rfl (rfl) ?_
  refine SL.Ok.skip' ?_
  refine SL.Ok.normThen ?_
  refine hK2 _ _ ?_
  refine SL.Ok.seq fun K4 hK4 => ?_
  refine SL.Ok.seq fun K5 hK5 => ?_
  refine SL.Ok.region ?_
  refine SL.Ok.op rfl rfl rfl (SL.Pure.move rfl rfl) ?_
  refine SL.Ok.op rfl rfl rfl (SL.Pure.nilCheck rfl rfl) ?_
  refine SL.Ok.op rfl rfl rfl (SL.Pure.fieldAddr (k := 35) rfl rfl (by kernel_rfl) rfl) ?_
  refine SL.Ok.op rfl rfl rfl (by first | exact SL.Pure.loadO1 hb (fun h => h) rfl rfl rfl (by kernel_rfl) | exact SL.Pure.load1 0 rfl rfl rfl rfl (by kernel_rfl)) ?_
  refine SL.Ok.nil ?_
  refine SL.Ok.normThen ?_
  refine hK5 _ _ ?_
  refine SL.Ok.condF' rfl (h) ?_
  refine SL.Ok.skip' ?_
  refine SL.Ok.normThen ?_
  refine hK4 _ _ ?_
  refine SL.Ok.seq fun K6 hK6 => ?_
  refine SL.Ok.region ?_
  refine SL.Ok.op rfl rfl rfl (SL.Pure.move rfl rfl) ?_
  refine SL.Ok.eff rfl (SL.Eff.callV rfl rfl (by kernel_rfl) rfl rfl (fun w hM hK => takers_c b w)) ?_
  intro _ _
  try simp only [SL.setN, SL.putD, SL.selM, SL.nth, List.cons_append, List.nil_append]
  refine SL.Ok.eff rfl (SL.Eff.alloc [Seg.one (.nilFunc) rfl, Seg.one (.nilFunc) rfl, Seg.one (.nilFunc) rfl, Seg.one (.nilFunc) rfl, Seg.one (.nilFunc) rfl, Seg.one (.nilFunc) rfl, Seg.one (.nilFunc) rfl, Seg.one (.nilFunc) rfl, Seg.one (.nilFunc) rfl, Seg.one (.nilFunc) rfl, Seg.one (.nilFunc) rfl, Seg.one (.nilFunc) rfl] rfl rfl rfl (by kernel_rfl)) ?_
  intro b5 _
  try simp only [SL.setN, SL.putD, SL.selM, SL.nth, List.cons_append, List.nil_append]
  refine SL.Ok.eff rfl (by first | exact SL.Eff.storeG (k := 12) 0 _ rfl rfl rfl rfl rfl rfl (by kernel_rfl) rfl rfl | exact SL.Eff.storeG (k := 12) 1 _ rfl rfl rfl rfl rfl rfl (by kernel_rfl) rfl rfl) ?_
  intro _ _
  try simp only [SL.setN, SL.putD, SL.selM, SL.nth, List.cons_append, List.nil_append]
  refine SL.Ok.nil ?_
  refine SL.Ok.normThen ?_
  refine hK6 _ _ ?_
  refine SL.Ok.seq fun K7 hK7 => ?_
  refine SL.Ok.block ?_
  refine SL.Ok.seq fun K8 hK8 => ?_
  refine SL.Ok.region ?_
  refine SL.Ok.op rfl rfl rfl (SL.Pure.fieldAddr (k := 0) rfl rfl (by kernel_rfl) rfl) ?_
  refine SL.Ok.op rfl rfl rfl (by first | exact SL.Pure.loadO1 hb (fun h => h) rfl rfl rfl (by kernel_rfl) | exact SL.Pure.load1 0 rfl rfl rfl rfl (by kernel_rfl) | exact SL.Pure.load1 1 rfl rfl rfl rfl (by kernel_rfl)) ?_
  refine SL.Ok.op rfl rfl rfl (SL.Pure.lss rfl rfl rfl) ?_
  refine SL.Ok.op rfl rfl rfl (SL.Pure.move rfl rfl) ?_
  refine SL.Ok.setF (d := 18) rfl (by simp; omega) ?_
  refine SL.Ok.opG rfl rfl rfl rfl rfl rfl rfl (SL.Pure.fieldAddr (k := 0) rfl rfl (by kernel_rfl) rfl) ?_
  refine SL.Ok.opG rfl rfl rfl rfl rfl rfl rfl (by first | exact SL.Pure.loadO1 hb (fun h => h) rfl rfl rfl (by kernel_rfl) | exact SL.Pure.load1 0 rfl rfl rfl rfl (by kernel_rfl) | exact SL.Pure.load1 1 rfl rfl rfl rfl (by kernel_rfl)) ?_
  refine SL.Ok.opG rfl rfl rfl rfl rfl rfl rfl (SL.Pure.geq rfl rfl rfl) ?_
  refine SL.Ok.op rfl rfl rfl (SL.Pure.pickF rfl rfl rfl) ?_
  refine SL.Ok.op rfl rfl rfl (SL.Pure.move rfl rfl) ?_
  refine SL.Ok.setF (d := 23) rfl (by simp; omega) ?_
  refine SL.Ok.opG rfl rfl rfl rfl rfl rfl rfl (SL.Pure.fieldAddr (k := 0) rfl rfl (by kernel_rfl) rfl) ?_
  refine SL.Ok.opG rfl rfl rfl rfl rfl rfl rfl (by first | exact SL.Pure.loadO1 hb (fun h => h) rfl rfl rfl (by kernel_rfl) | exact SL.Pure.load1 0 rfl rfl rfl rfl (by kernel_rfl) | exact SL.Pure.load1 1 rfl rfl rfl rfl (by kernel_rfl)) ?_
  refine SL.Ok.opG rfl rfl rfl rfl rfl rfl rfl (SL.Pure.indexAddrA (sz := 1) rfl rfl rfl Tryz.underlying56 (by kernel_rfl) (by omega) (by omega) rfl) ?_
  refine SL.Ok.opG rfl rfl rfl rfl rfl rfl rfl (SL.Pure.load1 0 rfl rfl rfl (tks_nil b (by omega) (by omega) h7 h8) (by kernel_rfl)) ?_
  refine SL.Ok.opG rfl rfl rfl rfl rfl rfl rfl (by first | exact SL.Pure.eqFnF rfl rfl rfl Tryz.underlying39 | exact SL.Pure.eqFnT rfl rfl rfl Tryz.underlying39) ?_
  refine SL.Ok.op rfl rfl rfl (SL.Pure.pickF rfl rfl rfl) ?_
  refine SL.Ok.op rfl rfl rfl (SL.Pure.assign rfl rfl) ?_
  refine SL.Ok.nil ?_
  refine SL.Ok.normThen ?_
  refine hK8 _ _ ?_
  refine SL.Ok.condT' rfl (rfl) ?_
  refine SL.Ok.seq fun K9 hK9 => ?_
  refine SL.Ok.region ?_
  refine SL.Ok.op rfl rfl rfl (SL.Pure.assign rfl rfl) ?_
  refine SL.Ok.nil ?_
  refine SL.Ok.normThen ?_
  refine hK9 _ _ ?_
  refine SL.Ok.ret (SL.retBlock (SL.retThen SL.retHere)) (SL.resL rfl (.cons (.tmp rfl) .nil) rfl) (fun w' hM' hK' => ?_)
  exact ⟨rfl, hK'⟩

theorem hear_c_id (b : Nat) (r : RS) (x : BX) (v : Int) (i : B 32) (f : Int) (t : List UInt8) (h : r.fin = false) (hv : v = 7 ∨ v = 8) (hi : i ≠ r.id) (w : World) (hb : w.heap[b]? = some (.cells (flat (rsg r x)) 54 (0, 0))) :
    Calls Tryz.prog 11 [.pointer (some ⟨b, 0, none⟩), .agg (flat (ccmd v i f t))].toArray w fun e w' => e = .returned (.int .i64 8) ∧ Keeps none1 w w' := by
  rcases hv with rfl | rfl
  · skip
    refine SL.calls_ok (n := 44) (W := SL.none1) (m := []) Tryz.func11 rfl Tryz.ntmps11 rfl (SL.Mem.nil _ _ _) ?_
    simp only [SL.enum, Nat.reduceAdd]
    refine SL.Ok.seq fun K1 hK1 => ?_
    refine SL.Ok.region ?_
    refine SL.Ok.eff rfl (SL.Eff.box _ rfl rfl rfl rfl rfl) ?_
    intro b3 _
    try simp only [SL.setN, SL.putD, SL.selM, SL.nth, List.cons_append, List.nil_append]
    refine SL.Ok.op rfl rfl rfl (SL.Pure.assign rfl rfl) ?_
    refine SL.Ok.nil ?_
    refine SL.Ok.normThen ?_
    refine hK1 _ _ ?_
    refine SL.Ok.seq fun K2 hK2 => ?_
    refine SL.Ok.seq fun K3 hK3 => ?_
    refine SL.Ok.region ?_
    refine SL.Ok.op rfl rfl rfl (SL.Pure.move rfl rfl) ?_
    refine SL.Ok.op rfl rfl rfl (SL.Pure.eqNil rfl rfl rfl Tryz.underlying28) ?_
    refine SL.Ok.nil ?_
    refine SL.Ok.normThen ?_
    refine hK3 _ _ ?_
    refine SL.Ok.condF' rfl (rfl) ?_
    refine SL.Ok.skip' ?_
    refine SL.Ok.normThen ?_
    refine hK2 _ _ ?_
    refine SL.Ok.seq fun K4 hK4 => ?_
    refine SL.Ok.seq fun K5 hK5 => ?_
    refine SL.Ok.region ?_
    refine SL.Ok.op rfl rfl rfl (SL.Pure.move rfl rfl) ?_
    refine SL.Ok.op rfl rfl rfl (SL.Pure.nilCheck rfl rfl) ?_
    refine SL.Ok.op rfl rfl rfl (SL.Pure.fieldAddr (k := 35) rfl rfl (by kernel_rfl) rfl) ?_
    refine SL.Ok.op rfl rfl rfl (by first | exact SL.Pure.loadO1 hb (fun h => h) rfl rfl rfl (by kernel_rfl) | exact SL.Pure.load1 0 rfl rfl rfl rfl (by kernel_rfl)) ?_
    refine SL.Ok.nil ?_
    refine SL.Ok.normThen ?_
    refine hK5 _ _ ?_
    refine SL.Ok.condF' rfl (h) ?_
    refine SL.Ok.skip' ?_
    refine SL.Ok.normThen ?_
    refine hK4 _ _ ?_
    refine SL.Ok.seq fun K6 hK6 => ?_
    refine SL.Ok.region ?_
    refine SL.Ok.op rfl rfl rfl (SL.Pure.move rfl rfl) ?_
    refine SL.Ok.eff rfl (SL.Eff.callV rfl rfl (by kernel_rfl) rfl rfl (fun w hM hK => takers_c b w)) ?_
    intro _ _
    try simp only [SL.setN, SL.putD, SL.selM, SL.nth, List.cons_append, List.nil_append]
    refine SL.Ok.eff rfl (SL.Eff.alloc [Seg.one (.nilFunc) rfl, Seg.one (.nilFunc) rfl, Seg.one (.nilFunc) rfl, Seg.one (.nilFunc) rfl, Seg.one (.nilFunc) rfl, Seg.one (.nilFunc) rfl, Seg.one (.nilFunc) rfl, Seg.one (.nilFunc) rfl, Seg.one (.nilFunc) rfl, Seg.one (.nilFunc) rfl, Seg.one (.nilFunc) rfl, Seg.one (.nilFunc) rfl] rfl rfl rfl (by kernel_rfl)) ?_
    intro b5 _
    try simp only [SL.setN, SL.putD, SL.selM, SL.nth, List.cons_append, List.nil_append]
    refine SL.Ok.eff rfl (by first | exact SL.Eff.storeG (k := 12) 0 _ rfl rfl rfl rfl rfl rfl (by kernel_rfl) rfl rfl | exact SL.Eff.storeG (k := 12) 1 _ rfl rfl rfl rfl rfl rfl (by kernel_rfl) rfl rfl) ?_
    intro _ _
    try simp only [SL.setN, SL.putD, SL.selM, SL.nth, List.cons_append, List.nil_append]
    refine SL.Ok.nil ?_
    refine SL.Ok.normThen ?_
    refine hK6 _ _ ?_
    refine SL.Ok.seq fun K7 hK7 => ?_
    refine SL.Ok.block ?_
    refine SL.Ok.seq fun K8 hK8 => ?_
    refine SL.Ok.region ?_
    refine SL.Ok.op rfl rfl rfl (SL.Pure.fieldAddr (k := 0) rfl rfl (by kernel_rfl) rfl) ?_
    refine SL.Ok.op rfl rfl rfl (by first | exact SL.Pure.loadO1 hb (fun h => h) rfl rfl rfl (by kernel_rfl) | exact SL.Pure.load1 0 rfl rfl rfl rfl (by kernel_rfl) | exact SL.Pure.load1 1 rfl rfl rfl rfl (by kernel_rfl)) ?_
    refine SL.Ok.op rfl rfl rfl (SL.Pure.lss rfl rfl rfl) ?_
    refine SL.Ok.op rfl rfl rfl (SL.Pure.move rfl rfl) ?_
    refine SL.Ok.setF (d := 18) rfl (by simp) ?_
    refine SL.Ok.opG rfl rfl rfl rfl rfl rfl rfl (SL.Pure.fieldAddr (k := 0) rfl rfl (by kernel_rfl) rfl) ?_
    refine SL.Ok.opG rfl rfl rfl rfl rfl rfl rfl (by first | exact SL.Pure.loadO1 hb (fun h => h) rfl rfl rfl (by kernel_rfl) | exact SL.Pure.load1 0 rfl rfl rfl rfl (by kernel_rfl) | exact SL.Pure.load1 1 rfl rfl rfl rfl (by kernel_rfl)) ?_
    refine SL.Ok.opG rfl rfl rfl rfl rfl rfl rfl (SL.Pure.geq rfl rfl rfl) ?_
    refine SL.Ok.op rfl rfl rfl (SL.Pure.pickF rfl rfl rfl) ?_
    refine SL.Ok.op rfl rfl rfl (SL.Pure.move rfl rfl) ?_
    refine SL.Ok.setF (d := 23) rfl (by simp) ?_
    refine SL.Ok.opG rfl rfl rfl rfl rfl rfl rfl (SL.Pure.fieldAddr (k := 0) rfl rfl (by kernel_rfl) rfl) ?_
    refine SL.Ok.opG rfl rfl rfl rfl rfl rfl rfl (by first | exact SL.Pure.loadO1 hb (fun h => h) rfl rfl rfl (by kernel_rfl) | exact SL.Pure.load1 0 rfl rfl rfl rfl (by kernel_rfl) | exact SL.Pure.load1 1 rfl rfl rfl rfl (by kernel_rfl)) ?_
    refine SL.Ok.opG rfl rfl rfl rfl rfl rfl rfl (SL.Pure.indexAddrA (sz := 1) rfl rfl rfl Tryz.underlying56 (by kernel_rfl) (by omega) (by omega) rfl) ?_
    refine SL.Ok.opG rfl rfl rfl rfl rfl rfl rfl (by first | exact SL.Pure.loadO1 hb (fun h => h) rfl rfl rfl (by kernel_rfl) | exact SL.Pure.load1 0 rfl rfl rfl rfl (by kernel_rfl) | exact SL.Pure.load1 1 rfl rfl rfl rfl (by kernel_rfl)) ?_
    refine SL.Ok.opG rfl rfl rfl rfl rfl rfl rfl (by first | exact SL.Pure.eqFnF rfl rfl rfl Tryz.underlying39 | exact SL.Pure.eqFnT rfl rfl rfl Tryz.underlying39) ?_
    refine SL.Ok.op rfl rfl rfl (SL.Pure.pickF rfl rfl rfl) ?_
    refine SL.Ok.op rfl rfl rfl (SL.Pure.assign rfl rfl) ?_
    refine SL.Ok.nil ?_
    refine SL.Ok.normThen ?_
    refine hK8 _ _ ?_
    refine SL.Ok.condF' rfl (rfl) ?_
    refine SL.Ok.seq fun K9 hK9 => ?_
    refine SL.Ok.still 7 mixed (by kernel_rfl) rfl rfl (fun wd8 => ?_)
    refine SL.OkS.op rfl rfl rfl (SL.Pure.fieldAddr (k := 2) rfl rfl (by kernel_rfl) rfl) ?_
    refine SL.OkS.op rfl rfl rfl (by first | exact SL.Pure.loadOA hb (fun h => h) rfl rfl (k := 32) (by kernel_rfl) rfl (by kernel_rfl) | exact SL.Pure.loadA 0 (k := 32) rfl rfl rfl (by kernel_rfl) rfl (by kernel_rfl) | exact SL.Pure.loadA 1 (k := 32) rfl rfl rfl (by kernel_rfl) rfl (by kernel_rfl)) ?_
    refine SL.OkS.op rfl rfl rfl (SL.Pure.move rfl rfl) ?_
    refine SL.OkS.op rfl rfl rfl (SL.Pure.nilCheck rfl rfl) ?_
    refine SL.OkS.op rfl rfl rfl (SL.Pure.fieldAddr (k := 0) rfl rfl (by kernel_rfl) rfl) ?_
    refine SL.OkS.op rfl rfl rfl (by first | exact SL.Pure.loadOA hb (fun h => h) rfl rfl (k := 32) (by kernel_rfl) rfl (by kernel_rfl) | exact SL.Pure.loadA 0 (k := 32) rfl rfl rfl (by kernel_rfl) rfl (by kernel_rfl) | exact SL.Pure.loadA 1 (k := 32) rfl rfl rfl (by kernel_rfl) rfl (by kernel_rfl)) ?_
    refine SL.OkS.op rfl rfl rfl (SL.Pure.neB rfl rfl rfl Tryz.underlying23 Tryz.underlying5 (by kernel_rfl) (by kernel_rfl)) ?_
    refine SL.OkS.tail ?_
    refine SL.Ok.op rfl rfl rfl (SL.Pure.assign rfl rfl) ?_
    refine SL.Ok.nil ?_
    refine SL.Ok.normThen ?_
    refine hK9 _ _ ?_
    refine SL.Ok.condT' rfl (by simp [hi]) ?_
    refine SL.Ok.seq fun K10 hK10 => ?_
    refine SL.Ok.region ?_
    refine SL.Ok.op rfl rfl rfl (SL.Pure.assign rfl rfl) ?_
    refine SL.Ok.nil ?_
    refine SL.Ok.normThen ?_
    refine hK10 _ _ ?_
    refine SL.Ok.ret (SL.retBlock (SL.retThen SL.retHere)) (SL.resL rfl (.cons (.tmp rfl) .nil) rfl) (fun w' hM' hK' => ?_)
    exact ⟨rfl, hK'⟩
  · skip
    refine SL.calls_ok (n := 44) (W := SL.none1) (m := []) Tryz.func11 rfl Tryz.ntmps11 rfl (SL.Mem.nil _ _ _) ?_
    simp only [SL.enum, Nat.reduceAdd]
    refine SL.Ok.seq fun K1 hK1 => ?_
    refine SL.Ok.region ?_
    refine SL.Ok.eff rfl (SL.Eff.box _ rfl rfl rfl rfl rfl) ?_
    intro b3 _
    try simp only [SL.setN, SL.putD, SL.selM, SL.nth, List.cons_append, List.nil_append]
    refine SL.Ok.op rfl rfl rfl (SL.Pure.assign rfl rfl) ?_
    refine SL.Ok.nil ?_
    refine SL.Ok.normThen ?_
    refine hK1 _ _ ?_
    refine SL.Ok.seq fun K2 hK2 => ?_
    refine SL.Ok.seq fun K3 hK3 => ?_
    refine SL.Ok.region ?_
    refine SL.Ok.op rfl rfl rfl (SL.Pure.move rfl rfl) ?_
    refine SL.Ok.op rfl rfl rfl (SL.Pure.eqNil rfl rfl rfl Tryz.underlying28) ?_
    refine SL.Ok.nil ?_
    refine SL.Ok.normThen ?_
    refine hK3 _ _ ?_
    refine SL.Ok.condF' rfl (rfl) ?_
    refine SL.Ok.skip' ?_
    refine SL.Ok.normThen ?_
    refine hK2 _ _ ?_
    refine SL.Ok.seq fun K4 hK4 => ?_
    refine SL.Ok.seq fun K5 hK5 => ?_
    refine SL.Ok.region ?_
    refine SL.Ok.op rfl rfl rfl (SL.Pure.move rfl rfl) ?_
    refine SL.Ok.op rfl rfl rfl (SL.Pure.nilCheck rfl rfl) ?_
    refine SL.Ok.op rfl rfl rfl (SL.Pure.fieldAddr (k := 35) rfl rfl (by kernel_rfl) rfl) ?_
    refine SL.Ok.op rfl rfl rfl (by first | exact SL.Pure.loadO1 hb (fun h => h) rfl rfl rfl (by kernel_rfl) | exact SL.Pure.load1 0 rfl rfl rfl rfl (by kernel_rfl)) ?_
    refine SL.Ok.nil ?_
    refine SL.Ok.normThen ?_
    refine hK5 _ _ ?_
    refine SL.Ok.condF' rfl (h) ?_
    refine SL.Ok.skip' ?_
    refine SL.Ok.normThen ?_
    refine hK4 _ _ ?_
    refine SL.Ok.seq fun K6 hK6 => ?_
    refine SL.Ok.region ?_
    refine SL.Ok.op rfl rfl rfl (SL.Pure.move rfl rfl) ?_
    refine SL.Ok.eff rfl (SL.Eff.callV rfl rfl (by kernel_rfl) rfl rfl (fun w hM hK => takers_c b w)) ?_
    intro _ _
    try simp only [SL.setN, SL.putD, SL.selM, SL.nth, List.cons_append, List.nil_append]
    refine SL.Ok.eff rfl (SL.Eff.alloc [Seg.one (.nilFunc) rfl, Seg.one (.nilFunc) rfl, Seg.one (.nilFunc) rfl, Seg.one (.nilFunc) rfl, Seg.one (.nilFunc) rfl, Seg.one (.nilFunc) rfl, Seg.one (.nilFunc) rfl, Seg.one (.nilFunc) rfl, Seg.one (.nilFunc) rfl, Seg.one (.nilFunc) rfl, Seg.one (.nilFunc) rfl, Seg.one (.nilFunc) rfl] rfl rfl rfl (by kernel_rfl)) ?_
    intro b5 _
    try simp only [SL.setN, SL.putD, SL.selM, SL.nth, List.cons_append, List.nil_append]
    refine SL.Ok.eff rfl (by first | exact SL.Eff.storeG (k := 12) 0 _ rfl rfl rfl rfl rfl rfl (by kernel_rfl) rfl rfl | exact SL.Eff.storeG (k := 12) 1 _ rfl rfl rfl rfl rfl rfl (by kernel_rfl) rfl rfl) ?_
    intro _ _
    try simp only [SL.setN, SL.putD, SL.selM, SL.nth, List.cons_append, List.nil_append]
    refine SL.Ok.nil ?_
    refine SL.Ok.normThen ?_
    refine hK6 _ _ ?_
    refine SL.Ok.seq fun K7 hK7 => ?_
    refine SL.Ok.block ?_
    refine SL.Ok.seq fun K8 hK8 => ?_
    refine SL.Ok.region ?_
    refine SL.Ok.op rfl rfl rfl (SL.Pure.fieldAddr (k := 0) rfl rfl (by kernel_rfl) rfl) ?_
    refine SL.Ok.op rfl rfl rfl (by first | exact SL.Pure.loadO1 hb (fun h => h) rfl rfl rfl (by kernel_rfl) | exact SL.Pure.load1 0 rfl rfl rfl rfl (by kernel_rfl) | exact SL.Pure.load1 1 rfl rfl rfl rfl (by kernel_rfl)) ?_
    refine SL.Ok.op rfl rfl rfl (SL.Pure.lss rfl rfl rfl) ?_
    refine SL.Ok.op rfl rfl rfl (SL.Pure.move rfl rfl) ?_
    refine SL.Ok.setF (d := 18) rfl (by simp) ?_
    refine SL.Ok.opG rfl rfl rfl rfl rfl rfl rfl (SL.Pure.fieldAddr (k := 0) rfl rfl (by kernel_rfl) rfl) ?_
    refine SL.Ok.opG rfl rfl rfl rfl rfl rfl rfl (by first | exact SL.Pure.loadO1 hb (fun h => h) rfl rfl rfl (by kernel_rfl) | exact SL.Pure.load1 0 rfl rfl rfl rfl (by kernel_rfl) | exact SL.Pure.load1 1 rfl rfl rfl rfl (by kernel_rfl)) ?_
    refine SL.Ok.opG rfl rfl rfl rfl rfl rfl rfl (SL.Pure.geq rfl rfl rfl) ?_
    refine SL.Ok.op rfl rfl rfl (SL.Pure.pickF rfl rfl rfl) ?_
    refine SL.Ok.op rfl rfl rfl (SL.Pure.move rfl rfl) ?_
    refine SL.Ok.setF (d := 23) rfl (by simp) ?_
    refine SL.Ok.opG rfl rfl rfl rfl rfl rfl rfl (SL.Pure.fieldAddr (k := 0) rfl rfl (by kernel_rfl) rfl) ?_
    refine SL.Ok.opG rfl rfl rfl rfl rfl rfl rfl (by first | exact SL.Pure.loadO1 hb (fun h => h) rfl rfl rfl (by kernel_rfl) | exact SL.Pure.load1 0 rfl rfl rfl rfl (by kernel_rfl) | exact SL.Pure.load1 1 rfl rfl rfl rfl (by kernel_rfl)) ?_
    refine SL.Ok.opG rfl rfl rfl rfl rfl rfl rfl (SL.Pure.indexAddrA (sz := 1) rfl rfl rfl Tryz.underlying56 (by kernel_rfl) (by omega) (by omega) rfl) ?_
    refine SL.Ok.opG rfl rfl rfl rfl rfl rfl rfl (by first | exact SL.Pure.loadO1 hb (fun h => h) rfl rfl rfl (by kernel_rfl) | exact SL.Pure.load1 0 rfl rfl rfl rfl (by kernel_rfl) | exact SL.Pure.load1 1 rfl rfl rfl rfl (by kernel_rfl)) ?_
    refine SL.Ok.opG rfl rfl rfl rfl rfl rfl rfl (by first | exact SL.Pure.eqFnF rfl rfl rfl Tryz.underlying39 | exact SL.Pure.eqFnT rfl rfl rfl Tryz.underlying39) ?_
    refine SL.Ok.op rfl rfl rfl (SL.Pure.pickF rfl rfl rfl) ?_
    refine SL.Ok.op rfl rfl rfl (SL.Pure.assign rfl rfl) ?_
    refine SL.Ok.nil ?_
    refine SL.Ok.normThen ?_
    refine hK8 _ _ ?_
    refine SL.Ok.condF' rfl (rfl) ?_
    refine SL.Ok.seq fun K9 hK9 => ?_
    refine SL.Ok.still 7 mixed (by kernel_rfl) rfl rfl (fun wd8 => ?_)
    refine SL.OkS.op rfl rfl rfl (SL.Pure.fieldAddr (k := 2) rfl rfl (by kernel_rfl) rfl) ?_
    refine SL.OkS.op rfl rfl rfl (by first | exact SL.Pure.loadOA hb (fun h => h) rfl rfl (k := 32) (by kernel_rfl) rfl (by kernel_rfl) | exact SL.Pure.loadA 0 (k := 32) rfl rfl rfl (by kernel_rfl) rfl (by kernel_rfl) | exact SL.Pure.loadA 1 (k := 32) rfl rfl rfl (by kernel_rfl) rfl (by kernel_rfl)) ?_
    refine SL.OkS.op rfl rfl rfl (SL.Pure.move rfl rfl) ?_
    refine SL.OkS.op rfl rfl rfl (SL.Pure.nilCheck rfl rfl) ?_
    refine SL.OkS.op rfl rfl rfl (SL.Pure.fieldAddr (k := 0) rfl rfl (by kernel_rfl) rfl) ?_
    refine SL.OkS.op rfl rfl rfl (by first | exact SL.Pure.loadOA hb (fun h => h) rfl rfl (k := 32) (by kernel_rfl) rfl (by kernel_rfl) | exact SL.Pure.loadA 0 (k := 32) rfl rfl rfl (by kernel_rfl) rfl (by kernel_rfl) | exact SL.Pure.loadA 1 (k := 32) rfl rfl rfl (by kernel_rfl) rfl (by kernel_rfl)) ?_
    refine SL.OkS.op rfl rfl rfl (SL.Pure.neB rfl rfl rfl Tryz.underlying23 Tryz.underlying5 (by kernel_rfl) (by kernel_rfl)) ?_
    refine SL.OkS.tail ?_
    refine SL.Ok.op rfl rfl rfl (SL.Pure.assign rfl rfl) ?_
    refine SL.Ok.nil ?_
    refine SL.Ok.normThen ?_
    refine hK9 _ _ ?_
    refine SL.Ok.condT' rfl (by simp [hi]) ?_
    refine SL.Ok.seq fun K10 hK10 => ?_
    refine SL.Ok.region ?_
    refine SL.Ok.op rfl rfl rfl (SL.Pure.assign rfl rfl) ?_
    refine SL.Ok.nil ?_
    refine SL.Ok.normThen ?_
    refine hK10 _ _ ?_
    refine SL.Ok.ret (SL.retBlock (SL.retThen SL.retHere)) (SL.resL rfl (.cons (.tmp rfl) .nil) rfl) (fun w' hM' hK' => ?_)
    exact ⟨rfl, hK'⟩

/-- a command that goes to a taker, which leaves all as it was -/
theorem hear_c_err (b : Nat) (r : RS) (x : BX) (v : Int) (f : Int) (t : List UInt8) (k : Int) (h : r.fin = false) (hv : v = 7 ∨ v = 8) (w : World) (hb : w.heap[b]? = some (.cells (flat (rsg r x)) 54 (0, 0)))
    (hc : ∀ w', Keeps none1 w w' → Calls Tryz.prog (if v = 7 then 28 else 29) [.pointer (some ⟨b, 0, none⟩), .agg (flat (ccmd v r.id f t))].toArray w' fun e w'' => e = .returned (.int .i64 k) ∧ Keeps none1 w' w'') :
    Calls Tryz.prog 11 [.pointer (some ⟨b, 0, none⟩), .agg (flat (ccmd v r.id f t))].toArray w fun e w' => e = .returned (.int .i64 k) ∧ Keeps none1 w w' := by
  rcases hv with rfl | rfl
  · skip
    refine SL.calls_ok (n := 44) (W := SL.none1) (m := []) Tryz.func11 rfl Tryz.ntmps11 rfl (SL.Mem.nil _ _ _) ?_
    simp only [SL.enum, Nat.reduceAdd]
    refine SL.Ok.seq fun K1 hK1 => ?_
    refine SL.Ok.region ?_
    refine SL.Ok.eff rfl (SL.Eff.box _ rfl rfl rfl rfl rfl) ?_
    intro b3 _
    try simp only [SL.setN, SL.putD, SL.selM, SL.nth, List.cons_append, List.nil_append]
    refine SL.Ok.op rfl rfl rfl (SL.Pure.assign rfl rfl) ?_
    refine SL.Ok.nil ?_
    refine SL.Ok.normThen ?_
    refine hK1 _ _ ?_
    refine SL.Ok.seq fun K2 hK2 => ?_
    refine SL.Ok.seq fun K3 hK3 => ?_
    refine SL.Ok.region ?_
    refine SL.Ok.op rfl rfl rfl (SL.Pure.move rfl rfl) ?_
    refine SL.Ok.op rfl rfl rfl (SL.Pure.eqNil rfl rfl rfl Tryz.underlying28) ?_
    refine SL.Ok.nil ?_
    refine SL.Ok.normThen ?_
    refine hK3 _ _ ?_
    refine SL.Ok.condF' rfl (rfl) ?_
    refine SL.Ok.skip' ?_
    refine SL.Ok.normThen ?_
    refine hK2 _ _ ?_
    refine SL.Ok.seq fun K4 hK4 => ?_
    refine SL.Ok.seq fun K5 hK5 => ?_
    refine SL.Ok.region ?_
    refine SL.Ok.op rfl rfl rfl (SL.Pure.move rfl rfl) ?_
    refine SL.Ok.op rfl rfl rfl (SL.Pure.nilCheck rfl rfl) ?_
    refine SL.Ok.op rfl rfl rfl (SL.Pure.fieldAddr (k := 35) rfl rfl (by kernel_rfl) rfl) ?_
    refine SL.Ok.op rfl rfl rfl (by first | exact SL.Pure.loadO1 hb (fun h => h) rfl rfl rfl (by kernel_rfl) | exact SL.Pure.load1 0 rfl rfl rfl rfl (by kernel_rfl)) ?_
    refine SL.Ok.nil ?_
    refine SL.Ok.normThen ?_
    refine hK5 _ _ ?_
    refine SL.Ok.condF' rfl (h) ?_
    refine SL.Ok.skip' ?_
    refine SL.Ok.normThen ?_
    refine hK4 _ _ ?_
    refine SL.Ok.seq fun K6 hK6 => ?_
    refine SL.Ok.region ?_
    refine SL.Ok.op rfl rfl rfl (SL.Pure.move rfl rfl) ?_
    refine SL.Ok.eff rfl (SL.Eff.callV rfl rfl (by kernel_rfl) rfl rfl (fun w hM hK => takers_c b w)) ?_
    intro _ _
    try simp only [SL.setN, SL.putD, SL.selM, SL.nth, List.cons_append, List.nil_append]
    refine SL.Ok.eff rfl (SL.Eff.alloc [Seg.one (.nilFunc) rfl, Seg.one (.nilFunc) rfl, Seg.one (.nilFunc) rfl, Seg.one (.nilFunc) rfl, Seg.one (.nilFunc) rfl, Seg.one (.nilFunc) rfl, Seg.one (.nilFunc) rfl, Seg.one (.nilFunc) rfl, Seg.one (.nilFunc) rfl, Seg.one (.nilFunc) rfl, Seg.one (.nilFunc) rfl, Seg.one (.nilFunc) rfl] rfl rfl rfl (by kernel_rfl)) ?_
    intro b5 _
    try simp only [SL.setN, SL.putD, SL.selM, SL.nth, List.cons_append, List.nil_append]
    refine SL.Ok.eff rfl (by first | exact SL.Eff.storeG (k := 12) 0 _ rfl rfl rfl rfl rfl rfl (by kernel_rfl) rfl rfl | exact SL.Eff.storeG (k := 12) 1 _ rfl rfl rfl rfl rfl rfl (by kernel_rfl) rfl rfl) ?_
    intro _ _
    try simp only [SL.setN, SL.putD, SL.selM, SL.nth, List.cons_append, List.nil_append]
    refine SL.Ok.nil ?_
    refine SL.Ok.normThen ?_
    refine hK6 _ _ ?_
    refine SL.Ok.seq fun K7 hK7 => ?_
    refine SL.Ok.block ?_
    refine SL.Ok.seq fun K8 hK8 => ?_
    refine SL.Ok.region ?_
    refine SL.Ok.op rfl rfl rfl (SL.Pure.fieldAddr (k := 0) rfl rfl (by kernel_rfl) rfl) ?_
    refine SL.Ok.op rfl rfl rfl (by first | exact SL.Pure.loadO1 hb (fun h => h) rfl rfl rfl (by kernel_rfl) | exact SL.Pure.load1 0 rfl rfl rfl rfl (by kernel_rfl) | exact SL.Pure.load1 1 rfl rfl rfl rfl (by kernel_rfl)) ?_
    refine SL.Ok.op rfl rfl rfl (SL.Pure.lss rfl rfl rfl) ?_
    refine SL.Ok.op rfl rfl rfl (SL.Pure.move rfl rfl) ?_
    refine SL.Ok.setF (d := 18) rfl (by simp) ?_
    refine SL.Ok.opG rfl rfl rfl rfl rfl rfl rfl (SL.Pure.fieldAddr (k := 0) rfl rfl (by kernel_rfl) rfl) ?_
    refine SL.Ok.opG rfl rfl rfl rfl rfl rfl rfl (by first | exact SL.Pure.loadO1 hb (fun h => h) rfl rfl rfl (by kernel_rfl) | exact SL.Pure.load1 0 rfl rfl rfl rfl (by kernel_rfl) | exact SL.Pure.load1 1 rfl rfl rfl rfl (by kernel_rfl)) ?_
    refine SL.Ok.opG rfl rfl rfl rfl rfl rfl rfl (SL.Pure.geq rfl rfl rfl) ?_
    refine SL.Ok.op rfl rfl rfl (SL.Pure.pickF rfl rfl rfl) ?_
    refine SL.Ok.op rfl rfl rfl (SL.Pure.move rfl rfl) ?_
    refine SL.Ok.setF (d := 23) rfl (by simp) ?_
    refine SL.Ok.opG rfl rfl rfl rfl rfl rfl rfl (SL.Pure.fieldAddr (k := 0) rfl rfl (by kernel_rfl) rfl) ?_
    refine SL.Ok.opG rfl rfl rfl rfl rfl rfl rfl (by first | exact SL.Pure.loadO1 hb (fun h => h) rfl rfl rfl (by kernel_rfl) | exact SL.Pure.load1 0 rfl rfl rfl rfl (by kernel_rfl) | exact SL.Pure.load1 1 rfl rfl rfl rfl (by kernel_rfl)) ?_
    refine SL.Ok.opG rfl rfl rfl rfl rfl rfl rfl (SL.Pure.indexAddrA (sz := 1) rfl rfl rfl Tryz.underlying56 (by kernel_rfl) (by omega) (by omega) rfl) ?_
    refine SL.Ok.opG rfl rfl rfl rfl rfl rfl rfl (by first | exact SL.Pure.loadO1 hb (fun h => h) rfl rfl rfl (by kernel_rfl) | exact SL.Pure.load1 0 rfl rfl rfl rfl (by kernel_rfl) | exact SL.Pure.load1 1 rfl rfl rfl rfl (by kernel_rfl)) ?_
    refine SL.Ok.opG rfl rfl rfl rfl rfl rfl rfl (by first | exact SL.Pure.eqFnF rfl rfl rfl Tryz.underlying39 | exact SL.Pure.eqFnT rfl rfl rfl Tryz.underlying39) ?_
    refine SL.Ok.op rfl rfl rfl (SL.Pure.pickF rfl rfl rfl) ?_
    refine SL.Ok.op rfl rfl rfl (SL.Pure.assign rfl rfl) ?_
    refine SL.Ok.nil ?_
    refine SL.Ok.normThen ?_
    refine hK8 _ _ ?_
    refine SL.Ok.condF' rfl (rfl) ?_
    refine SL.Ok.seq fun K9 hK9 => ?_
    refine SL.Ok.still 7 mixed (by kernel_rfl) rfl rfl (fun wd8 => ?_)
    refine SL.OkS.op rfl rfl rfl (SL.Pure.fieldAddr (k := 2) rfl rfl (by kernel_rfl) rfl) ?_
    refine SL.OkS.op rfl rfl rfl (by first | exact SL.Pure.loadOA hb (fun h => h) rfl rfl (k := 32) (by kernel_rfl) rfl (by kernel_rfl) | exact SL.Pure.loadA 0 (k := 32) rfl rfl rfl (by kernel_rfl) rfl (by kernel_rfl) | exact SL.Pure.loadA 1 (k := 32) rfl rfl rfl (by kernel_rfl) rfl (by kernel_rfl)) ?_
    refine SL.OkS.op rfl rfl rfl (SL.Pure.move rfl rfl) ?_
    refine SL.OkS.op rfl rfl rfl (SL.Pure.nilCheck rfl rfl) ?_
    refine SL.OkS.op rfl rfl rfl (SL.Pure.fieldAddr (k := 0) rfl rfl (by kernel_rfl) rfl) ?_
    refine SL.OkS.op rfl rfl rfl (by first | exact SL.Pure.loadOA hb (fun h => h) rfl rfl (k := 32) (by kernel_rfl) rfl (by kernel_rfl) | exact SL.Pure.loadA 0 (k := 32) rfl rfl rfl (by kernel_rfl) rfl (by kernel_rfl) | exact SL.Pure.loadA 1 (k := 32) rfl rfl rfl (by kernel_rfl) rfl (by kernel_rfl)) ?_
    refine SL.OkS.op rfl rfl rfl (SL.Pure.neB rfl rfl rfl Tryz.underlying23 Tryz.underlying5 (by kernel_rfl) (by kernel_rfl)) ?_
    refine SL.OkS.tail ?_
    refine SL.Ok.op rfl rfl rfl (SL.Pure.assign rfl rfl) ?_
    refine SL.Ok.nil ?_
    refine SL.Ok.normThen ?_
    refine hK9 _ _ ?_
    refine SL.Ok.condF' rfl (by simp) ?_
    refine SL.Ok.skip' ?_
    refine SL.Ok.normBlock ?_
    refine SL.Ok.normThen ?_
    refine hK7 _ _ ?_
    refine SL.Ok.seq fun K10 hK10 => ?_
    refine SL.Ok.still 5 mixed (by kernel_rfl) rfl rfl (fun wd10 => ?_)
    refine SL.OkS.op rfl rfl rfl (SL.Pure.fieldAddr (k := 0) rfl rfl (by kernel_rfl) rfl) ?_
    refine SL.OkS.op rfl rfl rfl (by first | exact SL.Pure.loadO1 hb (fun h => h) rfl rfl rfl (by kernel_rfl) | exact SL.Pure.load1 0 rfl rfl rfl rfl (by kernel_rfl) | exact SL.Pure.load1 1 rfl rfl rfl rfl (by kernel_rfl)) ?_
    refine SL.OkS.op rfl rfl rfl (SL.Pure.indexAddrA (sz := 1) rfl rfl rfl Tryz.underlying56 (by kernel_rfl) (by omega) (by omega) rfl) ?_
    refine SL.OkS.op rfl rfl rfl (by first | exact SL.Pure.loadO1 hb (fun h => h) rfl rfl rfl (by kernel_rfl) | exact SL.Pure.load1 0 rfl rfl rfl rfl (by kernel_rfl) | exact SL.Pure.load1 1 rfl rfl rfl rfl (by kernel_rfl)) ?_
    refine SL.OkS.op rfl rfl rfl (by first | exact SL.Pure.loadOA hb (fun h => h) rfl rfl (k := 39) (by kernel_rfl) rfl (by kernel_rfl) | exact SL.Pure.loadA 0 (k := 39) rfl rfl rfl (by kernel_rfl) rfl (by kernel_rfl) | exact SL.Pure.loadA 1 (k := 39) rfl rfl rfl (by kernel_rfl) rfl (by kernel_rfl)) ?_
    refine SL.OkS.tail ?_
    refine SL.Ok.eff rfl (SL.Eff.callFnV rfl rfl (by kernel_rfl) rfl rfl (fun w hM hK => hc w hK)) ?_
    intro _ _
    try simp only [SL.setN, SL.putD, SL.selM, SL.nth, List.cons_append, List.nil_append]
    refine SL.Ok.op rfl rfl rfl (SL.Pure.assign rfl rfl) ?_
    refine SL.Ok.nil ?_
    refine SL.Ok.normThen ?_
    refine hK10 _ _ ?_
    refine SL.Ok.ret SL.retHere (SL.resL rfl (.cons (.tmp rfl) .nil) rfl) (fun w' hM' hK' => ?_)
    exact ⟨rfl, hK'⟩
  · skip
    refine SL.calls_ok (n := 44) (W := SL.none1) (m := []) Tryz.func11 rfl Tryz.ntmps11 rfl (SL.Mem.nil _ _ _) ?_
    simp only [SL.enum, Nat.reduceAdd]
    refine SL.Ok.seq fun K1 hK1 => ?_
    refine SL.Ok.region ?_
    refine SL.Ok.eff rfl (SL.Eff.box _ rfl rfl rfl rfl rfl) ?_
    intro b3 _
    try simp only [SL.setN, SL.putD, SL.selM, SL.nth, List.cons_append, List.nil_append]
    refine SL.Ok.op rfl rfl rfl (SL.Pure.assign rfl rfl) ?_
    refine SL.Ok.nil ?_
    refine SL.Ok.normThen ?_
    refine hK1 _ _ ?_
    refine SL.Ok.seq fun K2 hK2 => ?_
    refine SL.Ok.seq fun K3 hK3 => ?_
    refine SL.Ok.region ?_
    refine SL.Ok.op rfl rfl rfl (SL.Pure.move rfl rfl) ?_
    refine SL.Ok.op rfl rfl rfl (SL.Pure.eqNil rfl rfl rfl Tryz.underlying28) ?_
    refine SL.Ok.nil ?_
    refine SL.Ok.normThen ?_
    refine hK3 _ _ ?_
    refine SL.Ok.condF' rfl (rfl) ?_
    refine SL.Ok.skip' ?_
    refine SL.Ok.normThen ?_
    refine hK2 _ _ ?_
    refine SL.Ok.seq fun K4 hK4 => ?_
    refine SL.Ok.seq fun K5 hK5 => ?_
    refine SL.Ok.region ?_
    refine SL.Ok.op rfl rfl rfl (SL.Pure.move rfl rfl) ?_
    refine SL.Ok.op rfl rfl rfl (SL.Pure.nilCheck rfl rfl) ?_
    refine SL.Ok.op rfl rfl rfl (SL.Pure.fieldAddr (k := 35) rfl rfl (by kernel_rfl) rfl) ?_
    refine SL.Ok.op rfl rfl rfl (by first | exact SL.Pure.loadO1 hb (fun h => h) rfl rfl rfl (by kernel_rfl) | exact SL.Pure.load1 0 rfl rfl rfl rfl (by kernel_rfl)) ?_
    refine SL.Ok.nil ?_
    refine SL.Ok.normThen ?_
    refine hK5 _ _ ?_
    refine SL.Ok.condF' rfl (h) ?_
    refine SL.Ok.skip' ?_
    refine SL.Ok.normThen ?_
    refine hK4 _ _ ?_
    refine SL.Ok.seq fun K6 hK6 => ?_
    refine SL.Ok.region ?_
    refine SL.Ok.op rfl rfl rfl (SL.Pure.move rfl rfl) ?_
    refine SL.Ok.eff rfl (SL.Eff.callV rfl rfl (by kernel_rfl) rfl rfl (fun w hM hK => takers_c b w)) ?_
    intro _ _
    try simp only [SL.setN, SL.putD, SL.selM, SL.nth, List.cons_append, List.nil_append]
    refine SL.Ok.eff rfl (SL.Eff.alloc [Seg.one (.nilFunc) rfl, Seg.one (.nilFunc) rfl, Seg.one (.nilFunc) rfl, Seg.one (.nilFunc) rfl, Seg.one (.nilFunc) rfl, Seg.one (.nilFunc) rfl, Seg.one (.nilFunc) rfl, Seg.one (.nilFunc) rfl, Seg.one (.nilFunc) rfl, Seg.one (.nilFunc) rfl, Seg.one (.nilFunc) rfl, Seg.one (.nilFunc) rfl] rfl rfl rfl (by kernel_rfl)) ?_
    intro b5 _
    try simp only [SL.setN, SL.putD, SL.selM, SL.nth, List.cons_append, List.nil_append]
    refine SL.Ok.eff rfl (by first | exact SL.Eff.storeG (k := 12) 0 _ rfl rfl rfl rfl rfl rfl (by kernel_rfl) rfl rfl | exact SL.Eff.storeG (k := 12) 1 _ rfl rfl rfl rfl rfl rfl (by kernel_rfl) rfl rfl) ?_
    intro _ _
    try simp only [SL.setN, SL.putD, SL.selM, SL.nth, List.cons_append, List.nil_append]
    refine SL.Ok.nil ?_
    refine SL.Ok.normThen ?_
    refine hK6 _ _ ?_
    refine SL.Ok.seq fun K7 hK7 => ?_
    refine SL.Ok.block ?_
    refine SL.Ok.seq fun K8 hK8 => ?_
    refine SL.Ok.region ?_
    refine SL.Ok.op rfl rfl rfl (SL.Pure.fieldAddr (k := 0) rfl rfl (by kernel_rfl) rfl) ?_
    refine SL.Ok.op rfl rfl rfl (by first | exact SL.Pure.loadO1 hb (fun h => h) rfl rfl rfl (by kernel_rfl) | exact SL.Pure.load1 0 rfl rfl rfl rfl (by kernel_rfl) | exact SL.Pure.load1 1 rfl rfl rfl rfl (by kernel_rfl)) ?_
    refine SL.Ok.op rfl rfl rfl (SL.Pure.lss rfl rfl rfl) ?_
    refine SL.Ok.op rfl rfl rfl (SL.Pure.move rfl rfl) ?_
    refine SL.Ok.setF (d := 18) rfl (by simp) ?_
    refine SL.Ok.opG rfl rfl rfl rfl rfl rfl rfl (SL.Pure.fieldAddr (k := 0) rfl rfl (by kernel_rfl) rfl) ?_
    refine SL.Ok.opG rfl rfl rfl rfl rfl rfl rfl (by first | exact SL.Pure.loadO1 hb (fun h => h) rfl rfl rfl (by kernel_rfl) | exact SL.Pure.load1 0 rfl rfl rfl rfl (by kernel_rfl) | exact SL.Pure.load1 1 rfl rfl rfl rfl (by kernel_rfl)) ?_
    refine SL.Ok.opG rfl rfl rfl rfl rfl rfl rfl (SL.Pure.geq rfl rfl rfl) ?_
    refine SL.Ok.op rfl rfl rfl (SL.Pure.pickF rfl rfl rfl) ?_
    refine SL.Ok.op rfl rfl rfl (SL.Pure.move rfl rfl) ?_
    refine SL.Ok.setF (d := 23) rfl (by simp) ?_
    refine SL.Ok.opG rfl rfl rfl rfl rfl rfl rfl (SL.Pure.fieldAddr (k := 0) rfl rfl (by kernel_rfl) rfl) ?_
    refine SL.Ok.opG rfl rfl rfl rfl rfl rfl rfl (by first | exact SL.Pure.loadO1 hb (fun h => h) rfl rfl rfl (by kernel_rfl) | exact SL.Pure.load1 0 rfl rfl rfl rfl (by kernel_rfl) | exact SL.Pure.load1 1 rfl rfl rfl rfl (by kernel_rfl)) ?_
    refine SL.Ok.opG rfl rfl rfl rfl rfl rfl rfl (SL.Pure.indexAddrA (sz := 1) rfl rfl rfl Tryz.underlying56 (by kernel_rfl) (by omega) (by omega) rfl) ?_
    refine SL.Ok.opG rfl rfl rfl rfl rfl rfl rfl (by first | exact SL.Pure.loadO1 hb (fun h => h) rfl rfl rfl (by kernel_rfl) | exact SL.Pure.load1 0 rfl rfl rfl rfl (by kernel_rfl) | exact SL.Pure.load1 1 rfl rfl rfl rfl (by kernel_rfl)) ?_
    refine SL.Ok.opG rfl rfl rfl rfl rfl rfl rfl (by first | exact SL.Pure.eqFnF rfl rfl rfl Tryz.underlying39 | exact SL.Pure.eqFnT rfl rfl rfl Tryz.underlying39) ?_
    refine SL.Ok.op rfl rfl rfl (SL.Pure.pickF rfl rfl rfl) ?_
    refine SL.Ok.op rfl rfl rfl (SL.Pure.assign rfl rfl) ?_
    refine SL.Ok.nil ?_
    refine SL.Ok.normThen ?_
    refine hK8 _ _ ?_
    refine SL.Ok.condF' rfl (rfl) ?_
    refine SL.Ok.seq fun K9 hK9 => ?_
    refine SL.Ok.still 7 mixed (by kernel_rfl) rfl rfl (fun wd8 => ?_)
    refine SL.OkS.op rfl rfl rfl (SL.Pure.fieldAddr (k := 2) rfl rfl (by kernel_rfl) rfl) ?_
    refine SL.OkS.op rfl rfl rfl (by first | exact SL.Pure.loadOA hb (fun h => h) rfl rfl (k := 32) (by kernel_rfl) rfl (by kernel_rfl) | exact SL.Pure.loadA 0 (k := 32) rfl rfl rfl (by kernel_rfl) rfl (by kernel_rfl) | exact SL.Pure.loadA 1 (k := 32) rfl rfl rfl (by kernel_rfl) rfl (by kernel_rfl)) ?_
    refine SL.OkS.op rfl rfl rfl (SL.Pure.move rfl rfl) ?_
    refine SL.OkS.op rfl rfl rfl (SL.Pure.nilCheck rfl rfl) ?_
    refine SL.OkS.op rfl rfl rfl (SL.Pure.fieldAddr (k := 0) rfl rfl (by kernel_rfl) rfl) ?_
    refine SL.OkS.op rfl rfl rfl (by first | exact SL.Pure.loadOA hb (fun h => h) rfl rfl (k := 32) (by kernel_rfl) rfl (by kernel_rfl) | exact SL.Pure.loadA 0 (k := 32) rfl rfl rfl (by kernel_rfl) rfl (by kernel_rfl) | exact SL.Pure.loadA 1 (k := 32) rfl rfl rfl (by kernel_rfl) rfl (by kernel_rfl)) ?_
    refine SL.OkS.op rfl rfl rfl (SL.Pure.neB rfl rfl rfl Tryz.underlying23 Tryz.underlying5 (by kernel_rfl) (by kernel_rfl)) ?_
    refine SL.OkS.tail ?_
    refine SL.Ok.op rfl rfl rfl (SL.Pure.assign rfl rfl) ?_
    refine SL.Ok.nil ?_
    refine SL.Ok.normThen ?_
    refine hK9 _ _ ?_
    refine SL.Ok.condF' rfl (by simp) ?_
    refine SL.Ok.skip' ?_
    refine SL.Ok.normBlock ?_
    refine SL.Ok.normThen ?_
    refine hK7 _ _ ?_
    refine SL.Ok.seq fun K10 hK10 => ?_
    refine SL.Ok.still 5 mixed (by kernel_rfl) rfl rfl (fun wd10 => ?_)
    refine SL.OkS.op rfl rfl rfl (SL.Pure.fieldAddr (k := 0) rfl rfl (by kernel_rfl) rfl) ?_
    refine SL.OkS.op rfl rfl rfl (by first | exact SL.Pure.loadO1 hb (fun h => h) rfl rfl rfl (by kernel_rfl) | exact SL.Pure.load1 0 rfl rfl rfl rfl (by kernel_rfl) | exact SL.Pure.load1 1 rfl rfl rfl rfl (by kernel_rfl)) ?_
    refine SL.OkS.op rfl rfl rfl (SL.Pure.indexAddrA (sz := 1) rfl rfl rfl Tryz.underlying56 (by kernel_rfl) (by omega) (by omega) rfl) ?_
    refine SL.OkS.op rfl rfl rfl (by first | exact SL.Pure.loadO1 hb (fun h => h) rfl rfl rfl (by kernel_rfl) | exact SL.Pure.load1 0 rfl rfl rfl rfl (by kernel_rfl) | exact SL.Pure.load1 1 rfl rfl rfl rfl (by kernel_rfl)) ?_
    refine SL.OkS.op rfl rfl rfl (by first | exact SL.Pure.loadOA hb (fun h => h) rfl rfl (k := 39) (by kernel_rfl) rfl (by kernel_rfl) | exact SL.Pure.loadA 0 (k := 39) rfl rfl rfl (by kernel_rfl) rfl (by kernel_rfl) | exact SL.Pure.loadA 1 (k := 39) rfl rfl rfl (by kernel_rfl) rfl (by kernel_rfl)) ?_
    refine SL.OkS.tail ?_
    refine SL.Ok.eff rfl (SL.Eff.callFnV rfl rfl (by kernel_rfl) rfl rfl (fun w hM hK => hc w hK)) ?_
    intro _ _
    try simp only [SL.setN, SL.putD, SL.selM, SL.nth, List.cons_append, List.nil_append]
    refine SL.Ok.op rfl rfl rfl (SL.Pure.assign rfl rfl) ?_
    refine SL.Ok.nil ?_
    refine SL.Ok.normThen ?_
    refine hK10 _ _ ?_
    refine SL.Ok.ret SL.retHere (SL.resL rfl (.cons (.tmp rfl) .nil) rfl) (fun w' hM' hK' => ?_)
    exact ⟨rfl, hK'⟩

theorem hear_c_ok (b : Nat) (r : RS) (x : BX) (r' : RS) (v : Int) (f : Int) (t : List UInt8) (h : r.fin = false) (hv : v = 7 ∨ v = 8) (w : World) (hm : Mem (blocksOf (rmem b r x)) w (rmem b r x) w)
    (hc : ∀ w', Mem (blocksOf (rmem b r x)) w' (rmem b r x) w' → Calls Tryz.prog (if v = 7 then 28 else 29) [.pointer (some ⟨b, 0, none⟩), .agg (flat (ccmd v r.id f t))].toArray w' fun e w'' => ∃ y : BX, rok b r' y ∧ e = .returned (.int .i64 0) ∧ Post w' (blocksOf (rmem b r x)) (rmem b r' y) w'') :
    Calls Tryz.prog 11 [.pointer (some ⟨b, 0, none⟩), .agg (flat (ccmd v r.id f t))].toArray w fun e w' => ∃ y : BX, rok b r' y ∧ e = .returned (.int .i64 0) ∧ Post w (blocksOf (rmem b r x)) (rmem b r' y) w' := by
  rcases hv with rfl | rfl
  · skip
    refine SL.calls_ok (n := 44) (W := (blocksOf (rmem b r x))) (m := rmem b r x) Tryz.func11 rfl Tryz.ntmps11 rfl hm ?_
    simp only [SL.enum, Nat.reduceAdd]
    refine SL.Ok.seq fun K1 hK1 => ?_
    refine SL.Ok.region ?_
    refine SL.Ok.eff rfl (SL.Eff.box _ rfl rfl rfl rfl rfl) ?_
    intro b3 _
    try simp only [SL.setN, SL.putD, SL.selM, SL.nth, List.cons_append, List.nil_append]
    refine SL.Ok.op rfl rfl rfl (SL.Pure.assign rfl rfl) ?_
    refine SL.Ok.nil ?_
    refine SL.Ok.normThen ?_
    refine hK1 _ _ ?_
    refine SL.Ok.seq fun K2 hK2 => ?_
    refine SL.Ok.seq fun K3 hK3 => ?_
    refine SL.Ok.region ?_
    refine SL.Ok.op rfl rfl rfl (SL.Pure.move rfl rfl) ?_
    refine SL.Ok.op rfl rfl rfl (SL.Pure.eqNil rfl rfl rfl Tryz.underlying28) ?_
    refine SL.Ok.nil ?_
    refine SL.Ok.normThen ?_
    refine hK3 _ _ ?_
    refine SL.Ok.condF' rfl (rfl) ?_
    refine SL.Ok.skip' ?_
    refine SL.Ok.normThen ?_
    refine hK2 _ _ ?_
    refine SL.Ok.seq fun K4 hK4 => ?_
    refine SL.Ok.seq fun K5 hK5 => ?_
    refine SL.Ok.region ?_
    refine SL.Ok.op rfl rfl rfl (SL.Pure.move rfl rfl) ?_
    refine SL.Ok.op rfl rfl rfl (SL.Pure.nilCheck rfl rfl) ?_
    refine SL.Ok.op rfl rfl rfl (SL.Pure.fieldAddr (k := 35) rfl rfl (by kernel_rfl) rfl) ?_
    refine SL.Ok.op rfl rfl rfl (by first | exact SL.Pure.load1 0 rfl rfl rfl rfl (by kernel_rfl) | exact SL.Pure.load1 1 rfl rfl rfl rfl (by kernel_rfl) | exact SL.Pure.load1 2 rfl rfl rfl rfl (by kernel_rfl)) ?_
    refine SL.Ok.nil ?_
    refine SL.Ok.normThen ?_
    refine hK5 _ _ ?_
    refine SL.Ok.condF' rfl (h) ?_
    refine SL.Ok.skip' ?_
    refine SL.Ok.normThen ?_
    refine hK4 _ _ ?_
    refine SL.Ok.seq fun K6 hK6 => ?_
    refine SL.Ok.region ?_
    refine SL.Ok.op rfl rfl rfl (SL.Pure.move rfl rfl) ?_
    refine SL.Ok.eff rfl (SL.Eff.callV rfl rfl (by kernel_rfl) rfl rfl (fun w hM hK => takers_c b w)) ?_
    intro _ _
    try simp only [SL.setN, SL.putD, SL.selM, SL.nth, List.cons_append, List.nil_append]
    refine SL.Ok.eff rfl (SL.Eff.alloc [Seg.one (.nilFunc) rfl, Seg.one (.nilFunc) rfl, Seg.one (.nilFunc) rfl, Seg.one (.nilFunc) rfl, Seg.one (.nilFunc) rfl, Seg.one (.nilFunc) rfl, Seg.one (.nilFunc) rfl, Seg.one (.nilFunc) rfl, Seg.one (.nilFunc) rfl, Seg.one (.nilFunc) rfl, Seg.one (.nilFunc) rfl, Seg.one (.nilFunc) rfl] rfl rfl rfl (by kernel_rfl)) ?_
    intro b5 _
    try simp only [SL.setN, SL.putD, SL.selM, SL.nth, List.cons_append, List.nil_append]
    refine SL.Ok.eff rfl (by first | exact SL.Eff.storeG (k := 12) 0 _ rfl rfl rfl rfl rfl rfl (by kernel_rfl) rfl rfl | exact SL.Eff.storeG (k := 12) 1 _ rfl rfl rfl rfl rfl rfl (by kernel_rfl) rfl rfl | exact SL.Eff.storeG (k := 12) 2 _ rfl rfl rfl rfl rfl rfl (by kernel_rfl) rfl rfl | exact SL.Eff.storeG (k := 12) 3 _ rfl rfl rfl rfl rfl rfl (by kernel_rfl) rfl rfl) ?_
    intro _ _
    try simp only [SL.setN, SL.putD, SL.selM, SL.nth, List.cons_append, List.nil_append]
    refine SL.Ok.nil ?_
    refine SL.Ok.normThen ?_
    refine hK6 _ _ ?_
    refine SL.Ok.seq fun K7 hK7 => ?_
    refine SL.Ok.block ?_
    refine SL.Ok.seq fun K8 hK8 => ?_
    refine SL.Ok.region ?_
    refine SL.Ok.op rfl rfl rfl (SL.Pure.fieldAddr (k := 0) rfl rfl (by kernel_rfl) rfl) ?_
    refine SL.Ok.op rfl rfl rfl (by first | exact SL.Pure.load1 0 rfl rfl rfl rfl (by kernel_rfl) | exact SL.Pure.load1 1 rfl rfl rfl rfl (by kernel_rfl) | exact SL.Pure.load1 2 rfl rfl rfl rfl (by kernel_rfl) | exact SL.Pure.load1 3 rfl rfl rfl rfl (by kernel_rfl)) ?_
    refine SL.Ok.op rfl rfl rfl (SL.Pure.lss rfl rfl rfl) ?_
    refine SL.Ok.op rfl rfl rfl (SL.Pure.move rfl rfl) ?_
    refine SL.Ok.setF (d := 18) rfl (by simp) ?_
    refine SL.Ok.opG rfl rfl rfl rfl rfl rfl rfl (SL.Pure.fieldAddr (k := 0) rfl rfl (by kernel_rfl) rfl) ?_
    refine SL.Ok.opG rfl rfl rfl rfl rfl rfl rfl (by first | exact SL.Pure.load1 0 rfl rfl rfl rfl (by kernel_rfl) | exact SL.Pure.load1 1 rfl rfl rfl rfl (by kernel_rfl) | exact SL.Pure.load1 2 rfl rfl rfl rfl (by kernel_rfl) | exact SL.Pure.load1 3 rfl rfl rfl rfl (by kernel_rfl)) ?_
    refine SL.Ok.opG rfl rfl rfl rfl rfl rfl rfl (SL.Pure.geq rfl rfl rfl) ?_
    refine SL.Ok.op rfl rfl rfl (SL.Pure.pickF rfl rfl rfl) ?_
    refine SL.Ok.op rfl rfl rfl (SL.Pure.move rfl rfl) ?_
    refine SL.Ok.setF (d := 23) rfl (by simp) ?_
    refine SL.Ok.opG rfl rfl rfl rfl rfl rfl rfl (SL.Pure.fieldAddr (k := 0) rfl rfl (by kernel_rfl) rfl) ?_
    refine SL.Ok.opG rfl rfl rfl rfl rfl rfl rfl (by first | exact SL.Pure.load1 0 rfl rfl rfl rfl (by kernel_rfl) | exact SL.Pure.load1 1 rfl rfl rfl rfl (by kernel_rfl) | exact SL.Pure.load1 2 rfl rfl rfl rfl (by kernel_rfl) | exact SL.Pure.load1 3 rfl rfl rfl rfl (by kernel_rfl)) ?_
    refine SL.Ok.opG rfl rfl rfl rfl rfl rfl rfl (SL.Pure.indexAddrA (sz := 1) rfl rfl rfl Tryz.underlying56 (by kernel_rfl) (by omega) (by omega) rfl) ?_
    refine SL.Ok.opG rfl rfl rfl rfl rfl rfl rfl (by first | exact SL.Pure.load1 0 rfl rfl rfl rfl (by kernel_rfl) | exact SL.Pure.load1 1 rfl rfl rfl rfl (by kernel_rfl) | exact SL.Pure.load1 2 rfl rfl rfl rfl (by kernel_rfl) | exact SL.Pure.load1 3 rfl rfl rfl rfl (by kernel_rfl)) ?_
    refine SL.Ok.opG rfl rfl rfl rfl rfl rfl rfl (by first | exact SL.Pure.eqFnF rfl rfl rfl Tryz.underlying39 | exact SL.Pure.eqFnT rfl rfl rfl Tryz.underlying39) ?_
    refine SL.Ok.op rfl rfl rfl (SL.Pure.pickF rfl rfl rfl) ?_
    refine SL.Ok.op rfl rfl rfl (SL.Pure.assign rfl rfl) ?_
    refine SL.Ok.nil ?_
    refine SL.Ok.normThen ?_
    refine hK8 _ _ ?_
    refine SL.Ok.condF' rfl (rfl) ?_
    refine SL.Ok.seq fun K9 hK9 => ?_
    refine SL.Ok.still 7 mixed (by kernel_rfl) rfl rfl (fun wd8 => ?_)
    refine SL.OkS.op rfl rfl rfl (SL.Pure.fieldAddr (k := 2) rfl rfl (by kernel_rfl) rfl) ?_
    refine SL.OkS.op rfl rfl rfl (by first | exact SL.Pure.loadA 0 (k := 32) rfl rfl rfl (by kernel_rfl) rfl (by kernel_rfl) | exact SL.Pure.loadA 1 (k := 32) rfl rfl rfl (by kernel_rfl) rfl (by kernel_rfl) | exact SL.Pure.loadA 2 (k := 32) rfl rfl rfl (by kernel_rfl) rfl (by kernel_rfl) | exact SL.Pure.loadA 3 (k := 32) rfl rfl rfl (by kernel_rfl) rfl (by kernel_rfl)) ?_
    refine SL.OkS.op rfl rfl rfl (SL.Pure.move rfl rfl) ?_
    refine SL.OkS.op rfl rfl rfl (SL.Pure.nilCheck rfl rfl) ?_
    refine SL.OkS.op rfl rfl rfl (SL.Pure.fieldAddr (k := 0) rfl rfl (by kernel_rfl) rfl) ?_
    refine SL.OkS.op rfl rfl rfl (by first | exact SL.Pure.loadA 0 (k := 32) rfl rfl rfl (by kernel_rfl) rfl (by kernel_rfl) | exact SL.Pure.loadA 1 (k := 32) rfl rfl rfl (by kernel_rfl) rfl (by kernel_rfl) | exact SL.Pure.loadA 2 (k := 32) rfl rfl rfl (by kernel_rfl) rfl (by kernel_rfl) | exact SL.Pure.loadA 3 (k := 32) rfl rfl rfl (by kernel_rfl) rfl (by kernel_rfl)) ?_
    refine SL.OkS.op rfl rfl rfl (SL.Pure.neB rfl rfl rfl Tryz.underlying23 Tryz.underlying5 (by kernel_rfl) (by kernel_rfl)) ?_
    refine SL.OkS.tail ?_
    refine SL.Ok.op rfl rfl rfl (SL.Pure.assign rfl rfl) ?_
    refine SL.Ok.nil ?_
    refine SL.Ok.normThen ?_
    refine hK9 _ _ ?_
    refine SL.Ok.condF' rfl (by simp) ?_
    refine SL.Ok.skip' ?_
    refine SL.Ok.normBlock ?_
    refine SL.Ok.normThen ?_
    refine hK7 _ _ ?_
    refine SL.Ok.seq fun K10 hK10 => ?_
    refine SL.Ok.still 5 mixed (by kernel_rfl) rfl rfl (fun wd10 => ?_)
    refine SL.OkS.op rfl rfl rfl (SL.Pure.fieldAddr (k := 0) rfl rfl (by kernel_rfl) rfl) ?_
    refine SL.OkS.op rfl rfl rfl (by first | exact SL.Pure.load1 0 rfl rfl rfl rfl (by kernel_rfl) | exact SL.Pure.load1 1 rfl rfl rfl rfl (by kernel_rfl) | exact SL.Pure.load1 2 rfl rfl rfl rfl (by kernel_rfl) | exact SL.Pure.load1 3 rfl rfl rfl rfl (by kernel_rfl)) ?_
    refine SL.OkS.op rfl rfl rfl (SL.Pure.indexAddrA (sz := 1) rfl rfl rfl Tryz.underlying56 (by kernel_rfl) (by omega) (by omega) rfl) ?_
    refine SL.OkS.op rfl rfl rfl (by first | exact SL.Pure.load1 0 rfl rfl rfl rfl (by kernel_rfl) | exact SL.Pure.load1 1 rfl rfl rfl rfl (by kernel_rfl) | exact SL.Pure.load1 2 rfl rfl rfl rfl (by kernel_rfl) | exact SL.Pure.load1 3 rfl rfl rfl rfl (by kernel_rfl)) ?_
    refine SL.OkS.op rfl rfl rfl (by first | exact SL.Pure.loadA 0 (k := 39) rfl rfl rfl (by kernel_rfl) rfl (by kernel_rfl) | exact SL.Pure.loadA 1 (k := 39) rfl rfl rfl (by kernel_rfl) rfl (by kernel_rfl) | exact SL.Pure.loadA 2 (k := 39) rfl rfl rfl (by kernel_rfl) rfl (by kernel_rfl) | exact SL.Pure.loadA 3 (k := 39) rfl rfl rfl (by kernel_rfl) rfl (by kernel_rfl)) ?_
    refine SL.OkS.tail ?_
    refine SL.Ok.eff rfl (SL.Eff.callFn [2, 3] [0, 1] rfl rfl (by kernel_rfl) rfl rfl rfl rfl (fun w hM hK => hc w (hM.sel [2, 3] rfl).own)) ?_
    intro y hy
    try simp only [SL.setN, SL.putD, SL.selM, SL.nth, List.cons_append, List.nil_append]
    refine SL.Ok.op rfl rfl rfl (SL.Pure.assign rfl rfl) ?_
    refine SL.Ok.nil ?_
    refine SL.Ok.normThen ?_
    refine hK10 _ _ ?_
    refine SL.Ok.ret SL.retHere (SL.resL rfl (.cons (.tmp rfl) .nil) rfl) (fun w' hM' hK' => ?_)
    exact ⟨y, hy, rfl, hK', hM'.sel [0, 1] rfl⟩
  · skip
    refine SL.calls_ok (n := 44) (W := (blocksOf (rmem b r x))) (m := rmem b r x) Tryz.func11 rfl Tryz.ntmps11 rfl hm ?_
    simp only [SL.enum, Nat.reduceAdd]
    refine SL.Ok.seq fun K1 hK1 => ?_
    refine SL.Ok.region ?_
    refine SL.Ok.eff rfl (SL.Eff.box _ rfl rfl rfl rfl rfl) ?_
    intro b3 _
    try simp only [SL.setN, SL.putD, SL.selM, SL.nth, List.cons_append, List.nil_append]
    refine SL.Ok.op rfl rfl rfl (SL.Pure.assign rfl rfl) ?_
    refine SL.Ok.nil ?_
    refine SL.Ok.normThen ?_
    refine hK1 _ _ ?_
    refine SL.Ok.seq fun K2 hK2 => ?_
    refine SL.Ok.seq fun K3 hK3 => ?_
    refine SL.Ok.region ?_
    refine SL.Ok.op rfl rfl rfl (SL.Pure.move rfl rfl) ?_
    refine SL.Ok.op rfl rfl rfl (SL.Pure.eqNil rfl rfl rfl Tryz.underlying28) ?_
    refine SL.Ok.nil ?_
    refine SL.Ok.normThen ?_
    refine hK3 _ _ ?_
    refine SL.Ok.condF' rfl (rfl) ?_
    refine SL.Ok.skip' ?_
    refine SL.Ok.normThen ?_
    refine hK2 _ _ ?_
    refine SL.Ok.seq fun K4 hK4 => ?_
    refine SL.Ok.seq fun K5 hK5 => ?_
    refine SL.Ok.region ?_
    refine SL.Ok.op rfl rfl rfl (SL.Pure.move rfl rfl) ?_
    refine SL.Ok.op rfl rfl rfl (SL.Pure.nilCheck rfl rfl) ?_
    refine SL.Ok.op rfl rfl rfl (SL.Pure.fieldAddr (k := 35) rfl rfl (by kernel_rfl) rfl) ?_
    refine SL.Ok.op rfl rfl rfl (by first | exact SL.Pure.load1 0 rfl rfl rfl rfl (by kernel_rfl) | exact SL.Pure.load1 1 rfl rfl rfl rfl (by kernel_rfl) | exact SL.Pure.load1 2 rfl rfl rfl rfl (by kernel_rfl)) ?_
    refine SL.Ok.nil ?_
    refine SL.Ok.normThen ?_
    refine hK5 _ _ ?_
    refine SL.Ok.condF' rfl (h) ?_
    refine SL.Ok.skip' ?_
    refine SL.Ok.normThen ?_
    refine hK4 _ _ ?_
    refine SL.Ok.seq fun K6 hK6 => ?_
    refine SL.Ok.region ?_
    refine SL.Ok.op rfl rfl rfl (SL.Pure.move rfl rfl) ?_
    refine SL.Ok.eff rfl (SL.Eff.callV rfl rfl (by kernel_rfl) rfl rfl (fun w hM hK => takers_c b w)) ?_
    intro _ _
    try simp only [SL.setN, SL.putD, SL.selM, SL.nth, List.cons_append, List.nil_append]
    refine SL.Ok.eff rfl (SL.Eff.alloc [Seg.one (.nilFunc) rfl, Seg.one (.nilFunc) rfl, Seg.one (.nilFunc) rfl, Seg.one (.nilFunc) rfl, Seg.one (.nilFunc) rfl, Seg.one (.nilFunc) rfl, Seg.one (.nilFunc) rfl, Seg.one (.nilFunc) rfl, Seg.one (.nilFunc) rfl, Seg.one (.nilFunc) rfl, Seg.one (.nilFunc) rfl, Seg.one (.nilFunc) rfl] rfl rfl rfl (by kernel_rfl)) ?_
    intro b5 _
    try simp only [SL.setN, SL.putD, SL.selM, SL.nth, List.cons_append, List.nil_append]
    refine SL.Ok.eff rfl (by first | exact SL.Eff.storeG (k := 12) 0 _ rfl rfl rfl rfl rfl rfl (by kernel_rfl) rfl rfl | exact SL.Eff.storeG (k := 12) 1 _ rfl rfl rfl rfl rfl rfl (by kernel_rfl) rfl rfl | exact SL.Eff.storeG (k := 12) 2 _ rfl rfl rfl rfl rfl rfl (by kernel_rfl) rfl rfl | exact SL.Eff.storeG (k := 12) 3 _ rfl rfl rfl rfl rfl rfl (by kernel_rfl) rfl rfl) ?_
    intro _ _
    try simp only [SL.setN, SL.putD, SL.selM, SL.nth, List.cons_append, List.nil_append]
    refine SL.Ok.nil ?_
    refine SL.Ok.normThen ?_
    refine hK6 _ _ ?_
    refine SL.Ok.seq fun K7 hK7 => ?_
    refine SL.Ok.block ?_
    refine SL.Ok.seq fun K8 hK8 => ?_
    refine SL.Ok.region ?_
    refine SL.Ok.op rfl rfl rfl (SL.Pure.fieldAddr (k := 0) rfl rfl (by kernel_rfl) rfl) ?_
    refine SL.Ok.op rfl rfl rfl (by first | exact SL.Pure.load1 0 rfl rfl rfl rfl (by kernel_rfl) | exact SL.Pure.load1 1 rfl rfl rfl rfl (by kernel_rfl) | exact SL.Pure.load1 2 rfl rfl rfl rfl (by kernel_rfl) | exact SL.Pure.load1 3 rfl rfl rfl rfl (by kernel_rfl)) ?_
    refine SL.Ok.op rfl rfl rfl (SL.Pure.lss rfl rfl rfl) ?_
    refine SL.Ok.op rfl rfl rfl (SL.Pure.move rfl rfl) ?_
    refine SL.Ok.setF (d := 18) rfl (by simp) ?_
    refine SL.Ok.opG rfl rfl rfl rfl rfl rfl rfl (SL.Pure.fieldAddr (k := 0) rfl rfl (by kernel_rfl) rfl) ?_
    refine SL.Ok.opG rfl rfl rfl rfl rfl rfl rfl (by first | exact SL.Pure.load1 0 rfl rfl rfl rfl (by kernel_rfl) | exact SL.Pure.load1 1 rfl rfl rfl rfl (by kernel_rfl) | exact SL.Pure.load1 2 rfl rfl rfl rfl (by kernel_rfl) | exact SL.Pure.load1 3 rfl rfl rfl rfl (by kernel_rfl)) ?_
    refine SL.Ok.opG rfl rfl rfl rfl rfl rfl rfl (SL.Pure.geq rfl rfl rfl) ?_
    refine SL.Ok.op rfl rfl rfl (SL.Pure.pickF rfl rfl rfl) ?_
    refine SL.Ok.op rfl rfl rfl (SL.Pure.move rfl rfl) ?_
    refine SL.Ok.setF (d := 23) rfl (by simp) ?_
    refine SL.Ok.opG rfl rfl rfl rfl rfl rfl rfl (SL.Pure.fieldAddr (k := 0) rfl rfl (by kernel_rfl) rfl) ?_
    refine SL.Ok.opG rfl rfl rfl rfl rfl rfl rfl (by first | exact SL.Pure.load1 0 rfl rfl rfl rfl (by kernel_rfl) | exact SL.Pure.load1 1 rfl rfl rfl rfl (by kernel_rfl) | exact SL.Pure.load1 2 rfl rfl rfl rfl (by kernel_rfl) | exact SL.Pure.load1 3 rfl rfl rfl rfl (by kernel_rfl)) ?_
    refine SL.Ok.opG rfl rfl rfl rfl rfl rfl rfl (SL.Pure.indexAddrA (sz := 1) rfl rfl rfl Tryz.underlying56 (by kernel_rfl) (by omega) (by omega) rfl) ?_
    refine SL.Ok.opG rfl rfl rfl rfl rfl rfl rfl (by first | exact SL.Pure.load1 0 rfl rfl rfl rfl (by kernel_rfl) | exact SL.Pure.load1 1 rfl rfl rfl rfl (by kernel_rfl) | exact SL.Pure.load1 2 rfl rfl rfl rfl (by kernel_rfl) | exact SL.Pure.load1 3 rfl rfl rfl rfl (by kernel_rfl)) ?_
    refine SL.Ok.opG rfl rfl rfl rfl rfl rfl rfl (by first | exact SL.Pure.eqFnF rfl rfl rfl Tryz.underlying39 | exact SL.Pure.eqFnT rfl rfl rfl Tryz.underlying39) ?_
    refine SL.Ok.op rfl rfl rfl (SL.Pure.pickF rfl rfl rfl) ?_
    refine SL.Ok.op rfl rfl rfl (SL.Pure.assign rfl rfl) ?_
    refine SL.Ok.nil ?_
    refine SL.Ok.normThen ?_
    refine hK8 _ _ ?_
    refine SL.Ok.condF' rfl (rfl) ?_
    refine SL.Ok.seq fun K9 hK9 => ?_
    refine SL.Ok.still 7 mixed (by kernel_rfl) rfl rfl (fun wd8 => ?_)
    refine SL.OkS.op rfl rfl rfl (SL.Pure.fieldAddr (k := 2) rfl rfl (by kernel_rfl) rfl) ?_
    refine SL.OkS.op rfl rfl rfl (by first | exact SL.Pure.loadA 0 (k := 32) rfl rfl rfl (by kernel_rfl) rfl (by kernel_rfl) | exact SL.Pure.loadA 1 (k := 32) rfl rfl rfl (by kernel_rfl) rfl (by kernel_rfl) | exact SL.Pure.loadA 2 (k := 32) rfl rfl rfl (by kernel_rfl) rfl (by kernel_rfl) | exact SL.Pure.loadA 3 (k := 32) rfl rfl rfl (by kernel_rfl) rfl (by kernel_rfl)) ?_
    refine SL.OkS.op rfl rfl rfl (SL.Pure.move rfl rfl) ?_
    refine SL.OkS.op rfl rfl rfl (SL.Pure.nilCheck rfl rfl) ?_
    refine SL.OkS.op rfl rfl rfl (SL.Pure.fieldAddr (k := 0) rfl rfl (by kernel_rfl) rfl) ?_
    refine SL.OkS.op rfl rfl rfl (by first | exact SL.Pure.loadA 0 (k := 32) rfl rfl rfl (by kernel_rfl) rfl (by kernel_rfl) | exact SL.Pure.loadA 1 (k := 32) rfl rfl rfl (by kernel_rfl) rfl (by kernel_rfl) | exact SL.Pure.loadA 2 (k := 32) rfl rfl rfl (by kernel_rfl) rfl (by kernel_rfl) | exact SL.Pure.loadA 3 (k := 32) rfl rfl rfl (by kernel_rfl) rfl (by kernel_rfl)) ?_
    refine SL.OkS.op rfl rfl rfl (SL.Pure.neB rfl rfl rfl Tryz.underlying23 Tryz.underlying5 (by kernel_rfl) (by kernel_rfl)) ?_
    refine SL.OkS.tail ?_
    refine SL.Ok.op rfl rfl rfl (SL.Pure.assign rfl rfl) ?_
    refine SL.Ok.nil ?_
    refine SL.Ok.normThen ?_
    refine hK9 _ _ ?_
    refine SL.Ok.condF' rfl (by simp) ?_
    refine SL.Ok.skip' ?_
    refine SL.Ok.normBlock ?_
    refine SL.Ok.normThen ?_
    refine hK7 _ _ ?_
    refine SL.Ok.seq fun K10 hK10 => ?_
    refine SL.Ok.still 5 mixed (by kernel_rfl) rfl rfl (fun wd10 => ?_)
    refine SL.OkS.op rfl rfl rfl (SL.Pure.fieldAddr (k := 0) rfl rfl (by kernel_rfl) rfl) ?_
    refine SL.OkS.op rfl rfl rfl (by first | exact SL.Pure.load1 0 rfl rfl rfl rfl (by kernel_rfl) | exact SL.Pure.load1 1 rfl rfl rfl rfl (by kernel_rfl) | exact SL.Pure.load1 2 rfl rfl rfl rfl (by kernel_rfl) | exact SL.Pure.load1 3 rfl rfl rfl rfl (by kernel_rfl)) ?_
    refine SL.OkS.op rfl rfl rfl (SL.Pure.indexAddrA (sz := 1) rfl rfl rfl Tryz.underlying56 (by kernel_rfl) (by omega) (by omega) rfl) ?_
    refine SL.OkS.op rfl rfl rfl (by first | exact SL.Pure.load1 0 rfl rfl rfl rfl (by kernel_rfl) | exact SL.Pure.load1 1 rfl rfl rfl rfl (by kernel_rfl) | exact SL.Pure.load1 2 rfl rfl rfl rfl (by kernel_rfl) | exact SL.Pure.load1 3 rfl rfl rfl rfl (by kernel_rfl)) ?_
    refine SL.OkS.op rfl rfl rfl (by first | exact SL.Pure.loadA 0 (k := 39) rfl rfl rfl (by kernel_rfl) rfl (by kernel_rfl) | exact SL.Pure.loadA 1 (k := 39) rfl rfl rfl (by kernel_rfl) rfl (by kernel_rfl) | exact SL.Pure.loadA 2 (k := 39) rfl rfl rfl (by kernel_rfl) rfl (by kernel_rfl) | exact SL.Pure.loadA 3 (k := 39) rfl rfl rfl (by kernel_rfl) rfl (by kernel_rfl)) ?_
    refine SL.OkS.tail ?_
    refine SL.Ok.eff rfl (SL.Eff.callFn [2, 3] [0, 1] rfl rfl (by kernel_rfl) rfl rfl rfl rfl (fun w hM hK => hc w (hM.sel [2, 3] rfl).own)) ?_
    intro y hy
    try simp only [SL.setN, SL.putD, SL.selM, SL.nth, List.cons_append, List.nil_append]
    refine SL.Ok.op rfl rfl rfl (SL.Pure.assign rfl rfl) ?_
    refine SL.Ok.nil ?_
    refine SL.Ok.normThen ?_
    refine hK10 _ _ ?_
    refine SL.Ok.ret SL.retHere (SL.resL rfl (.cons (.tmp rfl) .nil) rfl) (fun w' hM' hK' => ?_)
    exact ⟨y, hy, rfl, hK', hM'.sel [0, 1] rfl⟩

/-- Hear: whatever the command. -/
theorem hear_c (b : Nat) (r : RS) (x : BX) (hok : rok b r x) (hi : rinv r) (v : Int) (i : B 32) (f : Int) (t : List UInt8) (w : World) (hm : Mem (blocksOf (rmem b r x)) w (rmem b r x) w) :
    Calls Tryz.prog 11 [.pointer (some ⟨b, 0, none⟩), .agg (flat (ccmd v i f t))].toArray w fun e w' => ∃ y : BX, rok b (hear r v i f t).1 y ∧ e = .returned (.int .i64 (hear r v i f t).2) ∧ Post w (blocksOf (rmem b r x)) (rmem b (hear r v i f t).1 y) w' := by
  have hb : w.heap[b]? = some (.cells (flat (rsg r x)) 54 (0, 0)) := hm.blk (i := 0) rfl
  have same : ∀ {k : Int}, hear r v i f t = (r, k) → (Calls Tryz.prog 11 [.pointer (some ⟨b, 0, none⟩), .agg (flat (ccmd v i f t))].toArray w fun e w' => e = .returned (.int .i64 k) ∧ Keeps none1 w w') →
      Calls Tryz.prog 11 [.pointer (some ⟨b, 0, none⟩), .agg (flat (ccmd v i f t))].toArray w fun e w' => ∃ y : BX, rok b (hear r v i f t).1 y ∧ e = .returned (.int .i64 (hear r v i f t).2) ∧ Post w (blocksOf (rmem b r x)) (rmem b (hear r v i f t).1 y) w' := by
    intro k hk hcall
    rw [hk]
    exact hcall.mono fun e w' ⟨he, hK⟩ => ⟨x, hok, he, hK.weak, hm.same hK⟩
  by_cases h1 : r.fin = true
  · exact same (hear_fin h1) (hear_c_fin b r x v i f t h1 w hb)
  have h1' : r.fin = false := by simpa using h1
  by_cases h2 : v = 7 ∨ v = 8
  rotate_left
  · exact same (hear_kind h1' (by omega) (by omega)) (hear_c_kind b r x v i f t h1' (by omega) (by omega) w hb)
  by_cases h3 : i = r.id
  rotate_left
  · exact same (hear_id h1' h2 h3) (hear_c_id b r x v i f t h1' h2 h3 w hb)
  subst h3
  rcases h2 with rfl | rfl
  · by_cases h4 : f = r.t.length
    · by_cases h5 : r.size < r.t.length + t.length
      · exact same (hear_long h1' rfl h4 h5) (hear_c_err b r x 7 f t 5 h1' (.inl rfl) w hb fun w' hk => data_long b r x hi 7 r.id f t h4 h5 w' (hk.old hb (fun h => h)))
      · rw [hear_data h1' rfl h4 h5]
        exact hear_c_ok b r x { r with t := r.t ++ t } 7 f t h1' (.inl rfl) w hm fun w' hm' => data_ok b r x hok hi 7 r.id f t h4 h5 w' hm'
    · exact same (hear_seq h1' rfl h4) (hear_c_err b r x 7 f t 30 h1' (.inl rfl) w hb fun w' hk => data_seq b r x 7 r.id f t h4 w' (hk.old hb (fun h => h)))
  · by_cases h4 : (r.t.length : Int) < r.size
    · exact same (hear_short h1' rfl h4) (hear_c_err b r x 8 f t 4 h1' (.inr rfl) w hb fun w' hk => done_short b r x 8 r.id f t h4 w' (hk.old hb (fun h => h)))
    · rw [hear_done h1' rfl h4]
      exact hear_c_ok b r x { r with fin := true } 8 f t h1' (.inr rfl) w hm fun w' hm' => done_ok b r x hok 8 r.id f t h4 w' hm'

end Go.Proofs.YtehjohfpegbhmaaGreatDoor
