/- What the methods of package transfer do at nil. -/
import Derived.Test.YtehjohfpegbhmaaGreatDoorTr6
import Derived.Test.YtehjohfpegbhmaaGreatDoorSl9
namespace Go.Proofs.YtehjohfpegbhmaaGreatDoor
open Go.SL Go.RowKit
set_option linter.unusedVariables false
set_option maxRecDepth 100000
set_option linter.unusedSimpArgs false

theorem say_nil (w : World) : Calls Tryz.prog 5 [.pointer none].toArray w fun e w' => e = .returned (.tuple #[.agg (flat (cmd 0 [] (B.zero 32) 0 0 0 0 [])), .bool false]) ∧ Keeps none1 w w' := by
  refine SL.calls_ok (n := 67) (W := SL.none1) (m := []) Tryz.func5 rfl Tryz.ntmps5 rfl (SL.Mem.nil _ _ _) ?_
  simp only [SL.enum, Nat.reduceAdd]
  refine SL.Ok.seq fun K1 hK1 => ?_
  refine SL.Ok.region ?_
  refine SL.Ok.eff rfl (SL.Eff.alloc [Seg.one (.int .i64 0) rfl, Seg.one (str []) rfl, (B.zero 32).seg, Seg.one (.int .i64 0) rfl, Seg.one (.int .i64 0) rfl, Seg.one (.int .i64 0) rfl, Seg.one (.int .i64 0) rfl, Seg.one (str []) rfl] rfl rfl rfl (by kernel_rfl)) ?_
  intro b2 _
  try simp only [SL.setN, SL.putD, SL.selM, SL.nth, List.cons_append, List.nil_append]
  refine SL.Ok.op rfl rfl rfl (SL.Pure.assign rfl rfl) ?_
  refine SL.Ok.nil ?_
  refine SL.Ok.normThen ?_
  refine hK1 _ _ ?_
  refine SL.Ok.seq fun K2 hK2 => ?_
  refine SL.Ok.seq fun K3 hK3 => ?_
  refine SL.Ok.region ?_
  refine SL.Ok.op rfl rfl rfl (SL.Pure.move rfl rfl) ?_
  refine SL.Ok.op rfl rfl rfl (SL.Pure.eqNil rfl rfl rfl Tryz.underlying27) ?_
  refine SL.Ok.op rfl rfl rfl (SL.Pure.move rfl rfl) ?_
  refine SL.Ok.setT (d := 7) rfl (rfl) ?_
  refine SL.Ok.opS rfl rfl rfl rfl rfl rfl rfl ?_
  refine SL.Ok.opS rfl rfl rfl rfl rfl rfl rfl ?_
  refine SL.Ok.opS rfl rfl rfl rfl rfl rfl rfl ?_
  refine SL.Ok.opS rfl rfl rfl rfl rfl rfl rfl ?_
  refine SL.Ok.op rfl rfl rfl (SL.Pure.pickT rfl rfl rfl) ?_
  refine SL.Ok.nil ?_
  refine SL.Ok.normThen ?_
  refine hK3 _ _ ?_
  refine SL.Ok.condT rfl ?_
  refine SL.Ok.seq fun K4 hK4 => ?_
  refine SL.Ok.region ?_
  refine SL.Ok.op rfl rfl rfl (SL.Pure.build [(0, 1), (1, 1), (2, 32), (34, 1), (35, 1), (36, 1), (37, 1), (38, 1)] [Seg.one (.int .i64 0) rfl, Seg.one (str []) rfl, (B.zero 32).seg, Seg.one (.int .i64 0) rfl, Seg.one (.int .i64 0) rfl, Seg.one (.int .i64 0) rfl, Seg.one (.int .i64 0) rfl, Seg.one (str []) rfl] rfl rfl .nil (by kernel_rfl) (by kernel_rfl) rfl) ?_
  refine SL.Ok.eff rfl (by first | exact SL.Eff.storeG (k := 39) 0 _ rfl rfl rfl rfl rfl rfl (by kernel_rfl) rfl rfl) ?_
  intro _ _
  try simp only [SL.setN, SL.putD, SL.selM, SL.nth, List.cons_append, List.nil_append]
  refine SL.Ok.op rfl rfl rfl (SL.Pure.assign rfl rfl) ?_
  refine SL.Ok.nil ?_
  refine SL.Ok.normThen ?_
  refine hK4 _ _ ?_
  refine SL.Ok.ret (SL.retThen SL.retHere) (SL.resL rfl (.cons (SL.RV.cellA 0 (k := 39) rfl rfl (by kernel_rfl) rfl (by kernel_rfl)) (.cons (.tmp rfl) .nil)) rfl) (fun w' hM' hK' => ?_)
  exact ⟨rfl, hK'⟩
theorem text_nil (w : World) : Calls Tryz.prog 6 [.pointer none].toArray w fun e w' => e = .returned (.tuple #[str [], .int .i64 1]) ∧ Keeps none1 w w' := by
  refine SL.calls_ok (n := 17) (W := SL.none1) (m := []) Tryz.func6 rfl Tryz.ntmps6 rfl (SL.Mem.nil _ _ _) ?_
  simp only [SL.enum, Nat.reduceAdd]
  refine SL.Ok.seq fun K1 hK1 => ?_
  refine SL.Ok.region ?_
  refine SL.Ok.op rfl rfl rfl (SL.Pure.assign rfl rfl) ?_
  refine SL.Ok.op rfl rfl rfl (SL.Pure.assign rfl rfl) ?_
  refine SL.Ok.nil ?_
  refine SL.Ok.normThen ?_
  refine hK1 _ _ ?_
  refine SL.Ok.seq fun K2 hK2 => ?_
  refine SL.Ok.block ?_
  refine SL.Ok.seq fun K3 hK3 => ?_
  refine SL.Ok.region ?_
  refine SL.Ok.op rfl rfl rfl (SL.Pure.move rfl rfl) ?_
  refine SL.Ok.op rfl rfl rfl (SL.Pure.eqNil rfl rfl rfl Tryz.underlying28) ?_
  refine SL.Ok.op rfl rfl rfl (SL.Pure.assign rfl rfl) ?_
  refine SL.Ok.nil ?_
  refine SL.Ok.normThen ?_
  refine hK3 _ _ ?_
  refine SL.Ok.condT' rfl (rfl) ?_
  refine SL.Ok.seq fun K4 hK4 => ?_
  refine SL.Ok.region ?_
  refine SL.Ok.op rfl rfl rfl (SL.Pure.assign rfl rfl) ?_
  refine SL.Ok.op rfl rfl rfl (SL.Pure.assign rfl rfl) ?_
  refine SL.Ok.nil ?_
  refine SL.Ok.normThen ?_
  refine hK4 _ _ ?_
  refine SL.Ok.ret (SL.retBlock (SL.retThen SL.retHere)) (SL.resL rfl (.cons (.tmp rfl) (.cons (.tmp rfl) .nil)) rfl) (fun w' hM' hK' => ?_)
  exact ⟨rfl, hK'⟩
theorem reset_nil (w : World) : Calls Tryz.prog 7 [.pointer none].toArray w fun e w' => e = .returned (.tuple #[]) ∧ Keeps none1 w w' := by
  refine SL.calls_ok (n := 11) (W := SL.none1) (m := []) Tryz.func7 rfl Tryz.ntmps7 rfl (SL.Mem.nil _ _ _) ?_
  simp only [SL.enum, Nat.reduceAdd]
  refine SL.Ok.seq fun K1 hK1 => ?_
  refine SL.Ok.region ?_
  refine SL.Ok.op rfl rfl rfl (SL.Pure.move rfl rfl) ?_
  refine SL.Ok.op rfl rfl rfl (SL.Pure.neNil rfl rfl rfl Tryz.underlying28) ?_
  refine SL.Ok.nil ?_
  refine SL.Ok.normThen ?_
  refine hK1 _ _ ?_
  refine SL.Ok.condF' rfl (rfl) ?_
  refine SL.Ok.skip' ?_
  refine SL.Ok.fin (fun _ _ h => h) (SL.resL rfl .nil rfl) (fun w' hM' hK' => ?_)
  exact ⟨rfl, hK'⟩
theorem sent_nil (w : World) : Calls Tryz.prog 9 [.pointer none].toArray w fun e w' => e = .returned (.int .i64 0) ∧ Keeps none1 w w' := by
  refine SL.calls_ok (n := 9) (W := SL.none1) (m := []) Tryz.func9 rfl Tryz.ntmps9 rfl (SL.Mem.nil _ _ _) ?_
  simp only [SL.enum, Nat.reduceAdd]
  refine SL.Ok.seq fun K1 hK1 => ?_
  refine SL.Ok.region ?_
  refine SL.Ok.op rfl rfl rfl (SL.Pure.assign rfl rfl) ?_
  refine SL.Ok.nil ?_
  refine SL.Ok.normThen ?_
  refine hK1 _ _ ?_
  refine SL.Ok.seq fun K2 hK2 => ?_
  refine SL.Ok.seq fun K3 hK3 => ?_
  refine SL.Ok.region ?_
  refine SL.Ok.op rfl rfl rfl (SL.Pure.move rfl rfl) ?_
  refine SL.Ok.op rfl rfl rfl (SL.Pure.eqNil rfl rfl rfl Tryz.underlying27) ?_
  refine SL.Ok.nil ?_
  refine SL.Ok.normThen ?_
  refine hK3 _ _ ?_
  refine SL.Ok.condT' rfl (rfl) ?_
  refine SL.Ok.seq fun K4 hK4 => ?_
  refine SL.Ok.region ?_
  refine SL.Ok.op rfl rfl rfl (SL.Pure.assign rfl rfl) ?_
  refine SL.Ok.nil ?_
  refine SL.Ok.normThen ?_
  refine hK4 _ _ ?_
  refine SL.Ok.ret (SL.retThen SL.retHere) (SL.resL rfl (.cons (.tmp rfl) .nil) rfl) (fun w' hM' hK' => ?_)
  exact ⟨rfl, hK'⟩
theorem ended_nil (w : World) : Calls Tryz.prog 10 [.pointer none].toArray w fun e w' => e = .returned (.bool false) ∧ Keeps none1 w w' := by
  refine SL.calls_ok (n := 11) (W := SL.none1) (m := []) Tryz.func10 rfl Tryz.ntmps10 rfl (SL.Mem.nil _ _ _) ?_
  simp only [SL.enum, Nat.reduceAdd]
  refine SL.Ok.seq fun K1 hK1 => ?_
  refine SL.Ok.region ?_
  refine SL.Ok.op rfl rfl rfl (SL.Pure.assign rfl rfl) ?_
  refine SL.Ok.nil ?_
  refine SL.Ok.normThen ?_
  refine hK1 _ _ ?_
  refine SL.Ok.seq fun K2 hK2 => ?_
  refine SL.Ok.region ?_
  refine SL.Ok.op rfl rfl rfl (SL.Pure.move rfl rfl) ?_
  refine SL.Ok.op rfl rfl rfl (SL.Pure.neNil rfl rfl rfl Tryz.underlying27) ?_
  refine SL.Ok.op rfl rfl rfl (SL.Pure.move rfl rfl) ?_
  refine SL.Ok.setF (d := 5) rfl (rfl) ?_
  refine SL.Ok.opS rfl rfl rfl rfl rfl rfl rfl ?_
  refine SL.Ok.opS rfl rfl rfl rfl rfl rfl rfl ?_
  refine SL.Ok.opS rfl rfl rfl rfl rfl rfl rfl ?_
  refine SL.Ok.opS rfl rfl rfl rfl rfl rfl rfl ?_
  refine SL.Ok.op rfl rfl rfl (SL.Pure.pickF rfl rfl rfl) ?_
  refine SL.Ok.op rfl rfl rfl (SL.Pure.assign rfl rfl) ?_
  refine SL.Ok.nil ?_
  refine SL.Ok.normThen ?_
  refine hK2 _ _ ?_
  refine SL.Ok.ret SL.retHere (SL.resL rfl (.cons (.tmp rfl) .nil) rfl) (fun w' hM' hK' => ?_)
  exact ⟨rfl, hK'⟩
theorem hear_nil (q : List Seg) (w : World) : Calls Tryz.prog 11 [.pointer none, .agg (flat q)].toArray w fun e w' => e = .returned (.int .i64 1) ∧ Keeps none1 w w' := by
  refine SL.calls_ok (n := 44) (W := SL.none1) (m := []) Tryz.func11 rfl Tryz.ntmps11 rfl (SL.Mem.nil _ _ _) ?_
  simp only [SL.enum, Nat.reduceAdd]
  refine SL.Ok.seq fun K1 hK1 => ?_
  refine SL.Ok.region ?_
  refine SL.Ok.eff rfl (SL.Eff.box _ rfl rfl rfl rfl rfl) ?_
  intro b3 _
  try simp only [SL.setN, SL.putD, SL.selM, SL.nth, List.cons_append, List.nil_append]
  refine SL.Ok.op rfl rfl rfl (SL.Pure.assign rfl rfl) ?_
  refine SL.Ok.nil ?_
  refine SL.Ok.normThen ?_
  refine hK1 _ _ ?_
  refine SL.Ok.seq fun K2 hK2 => ?_
  refine SL.Ok.seq fun K3 hK3 => ?_
  refine SL.Ok.region ?_
  refine SL.Ok.op rfl rfl rfl (SL.Pure.move rfl rfl) ?_
  refine SL.Ok.op rfl rfl rfl (SL.Pure.eqNil rfl rfl rfl Tryz.underlying28) ?_
  refine SL.Ok.nil ?_
  refine SL.Ok.normThen ?_
  refine hK3 _ _ ?_
  refine SL.Ok.condT' rfl (rfl) ?_
  refine SL.Ok.seq fun K4 hK4 => ?_
  refine SL.Ok.region ?_
  refine SL.Ok.op rfl rfl rfl (SL.Pure.assign rfl rfl) ?_
  refine SL.Ok.nil ?_
  refine SL.Ok.normThen ?_
  refine hK4 _ _ ?_
  refine SL.Ok.ret (SL.retThen SL.retHere) (SL.resL rfl (.cons (.tmp rfl) .nil) rfl) (fun w' hM' hK' => ?_)
  exact ⟨rfl, hK'⟩
theorem from_nil (w : World) : Calls Tryz.prog 13 [.pointer none].toArray w fun e w' => e = .returned (.int .i64 0) ∧ Keeps none1 w w' := by
  refine SL.calls_ok (n := 9) (W := SL.none1) (m := []) Tryz.func13 rfl Tryz.ntmps13 rfl (SL.Mem.nil _ _ _) ?_
  simp only [SL.enum, Nat.reduceAdd]
  refine SL.Ok.seq fun K1 hK1 => ?_
  refine SL.Ok.region ?_
  refine SL.Ok.op rfl rfl rfl (SL.Pure.assign rfl rfl) ?_
  refine SL.Ok.nil ?_
  refine SL.Ok.normThen ?_
  refine hK1 _ _ ?_
  refine SL.Ok.seq fun K2 hK2 => ?_
  refine SL.Ok.seq fun K3 hK3 => ?_
  refine SL.Ok.region ?_
  refine SL.Ok.op rfl rfl rfl (SL.Pure.move rfl rfl) ?_
  refine SL.Ok.op rfl rfl rfl (SL.Pure.eqNil rfl rfl rfl Tryz.underlying28) ?_
  refine SL.Ok.nil ?_
  refine SL.Ok.normThen ?_
  refine hK3 _ _ ?_
  refine SL.Ok.condT' rfl (rfl) ?_
  refine SL.Ok.seq fun K4 hK4 => ?_
  refine SL.Ok.region ?_
  refine SL.Ok.op rfl rfl rfl (SL.Pure.assign rfl rfl) ?_
  refine SL.Ok.nil ?_
  refine SL.Ok.normThen ?_
  refine hK4 _ _ ?_
  refine SL.Ok.ret (SL.retThen SL.retHere) (SL.resL rfl (.cons (.tmp rfl) .nil) rfl) (fun w' hM' hK' => ?_)
  exact ⟨rfl, hK'⟩
theorem complete_nil (w : World) : Calls Tryz.prog 14 [.pointer none].toArray w fun e w' => e = .returned (.bool false) ∧ Keeps none1 w w' := by
  refine SL.calls_ok (n := 11) (W := SL.none1) (m := []) Tryz.func14 rfl Tryz.ntmps14 rfl (SL.Mem.nil _ _ _) ?_
  simp only [SL.enum, Nat.reduceAdd]
  refine SL.Ok.seq fun K1 hK1 => ?_
  refine SL.Ok.region ?_
  refine SL.Ok.op rfl rfl rfl (SL.Pure.assign rfl rfl) ?_
  refine SL.Ok.nil ?_
  refine SL.Ok.normThen ?_
  refine hK1 _ _ ?_
  refine SL.Ok.seq fun K2 hK2 => ?_
  refine SL.Ok.region ?_
  refine SL.Ok.op rfl rfl rfl (SL.Pure.move rfl rfl) ?_
  refine SL.Ok.op rfl rfl rfl (SL.Pure.neNil rfl rfl rfl Tryz.underlying28) ?_
  refine SL.Ok.op rfl rfl rfl (SL.Pure.move rfl rfl) ?_
  refine SL.Ok.setF (d := 5) rfl (rfl) ?_
  refine SL.Ok.opS rfl rfl rfl rfl rfl rfl rfl ?_
  refine SL.Ok.opS rfl rfl rfl rfl rfl rfl rfl ?_
  refine SL.Ok.opS rfl rfl rfl rfl rfl rfl rfl ?_
  refine SL.Ok.opS rfl rfl rfl rfl rfl rfl rfl ?_
  refine SL.Ok.op rfl rfl rfl (SL.Pure.pickF rfl rfl rfl) ?_
  refine SL.Ok.op rfl rfl rfl (SL.Pure.assign rfl rfl) ?_
  refine SL.Ok.nil ?_
  refine SL.Ok.normThen ?_
  refine hK2 _ _ ?_
  refine SL.Ok.ret SL.retHere (SL.resL rfl (.cons (.tmp rfl) .nil) rfl) (fun w' hM' hK' => ?_)
  exact ⟨rfl, hK'⟩
theorem accept_nil (w : World) : Calls Tryz.prog 15 [.pointer none].toArray w fun e w' => e = .returned (.int .i64 1) ∧ Keeps none1 w w' := by
  refine SL.calls_ok (n := 57) (W := SL.none1) (m := []) Tryz.func15 rfl Tryz.ntmps15 rfl (SL.Mem.nil _ _ _) ?_
  simp only [SL.enum, Nat.reduceAdd]
  refine SL.Ok.seq fun K1 hK1 => ?_
  refine SL.Ok.region ?_
  refine SL.Ok.op rfl rfl rfl (SL.Pure.assign rfl rfl) ?_
  refine SL.Ok.nil ?_
  refine SL.Ok.normThen ?_
  refine hK1 _ _ ?_
  refine SL.Ok.seq fun K2 hK2 => ?_
  refine SL.Ok.region ?_
  refine SL.Ok.op rfl rfl rfl (SL.Pure.move rfl rfl) ?_
  refine SL.Ok.eff rfl (SL.Eff.callV rfl rfl (by kernel_rfl) rfl rfl (fun w hM hK => text_nil w)) ?_
  intro _ _
  try simp only [SL.setN, SL.putD, SL.selM, SL.nth, List.cons_append, List.nil_append]
  refine SL.Ok.op rfl rfl rfl (SL.Pure.move rfl rfl) ?_
  refine SL.Ok.op rfl rfl rfl (SL.Pure.extract rfl rfl rfl) ?_
  refine SL.Ok.op rfl rfl rfl (SL.Pure.extract rfl rfl rfl) ?_
  refine SL.Ok.op rfl rfl rfl (SL.Pure.assign rfl rfl) ?_
  refine SL.Ok.op rfl rfl rfl (SL.Pure.assign rfl rfl) ?_
  refine SL.Ok.nil ?_
  refine SL.Ok.normThen ?_
  refine hK2 _ _ ?_
  refine SL.Ok.seq fun K3 hK3 => ?_
  refine SL.Ok.seq fun K4 hK4 => ?_
  refine SL.Ok.region ?_
  refine SL.Ok.op rfl rfl rfl (SL.Pure.move rfl rfl) ?_
  refine SL.Ok.op rfl rfl rfl (SL.Pure.nei rfl rfl rfl) ?_
  refine SL.Ok.nil ?_
  refine SL.Ok.normThen ?_
  refine hK4 _ _ ?_
  refine SL.Ok.condT' rfl (rfl) ?_
  refine SL.Ok.seq fun K5 hK5 => ?_
  refine SL.Ok.region ?_
  refine SL.Ok.op rfl rfl rfl (SL.Pure.move rfl rfl) ?_
  refine SL.Ok.op rfl rfl rfl (SL.Pure.assign rfl rfl) ?_
  refine SL.Ok.nil ?_
  refine SL.Ok.normThen ?_
  refine hK5 _ _ ?_
  refine SL.Ok.ret (SL.retThen SL.retHere) (SL.resL rfl (.cons (.tmp rfl) .nil) rfl) (fun w' hM' hK' => ?_)
  exact ⟨rfl, hK'⟩
theorem clone_nil (w : World) : Calls Tryz.prog 16 [.pointer none].toArray w fun e w' => e = .returned (.pointer none) ∧ Keeps none1 w w' := by
  refine SL.calls_ok (n := 29) (W := SL.none1) (m := []) Tryz.func16 rfl Tryz.ntmps16 rfl (SL.Mem.nil _ _ _) ?_
  simp only [SL.enum, Nat.reduceAdd]
  refine SL.Ok.seq fun K1 hK1 => ?_
  refine SL.Ok.region ?_
  refine SL.Ok.op rfl rfl rfl (SL.Pure.assign rfl rfl) ?_
  refine SL.Ok.nil ?_
  refine SL.Ok.normThen ?_
  refine hK1 _ _ ?_
  refine SL.Ok.seq fun K2 hK2 => ?_
  refine SL.Ok.seq fun K3 hK3 => ?_
  refine SL.Ok.region ?_
  refine SL.Ok.op rfl rfl rfl (SL.Pure.move rfl rfl) ?_
  refine SL.Ok.op rfl rfl rfl (SL.Pure.eqNil rfl rfl rfl Tryz.underlying28) ?_
  refine SL.Ok.nil ?_
  refine SL.Ok.normThen ?_
  refine hK3 _ _ ?_
  refine SL.Ok.condT' rfl (rfl) ?_
  refine SL.Ok.seq fun K4 hK4 => ?_
  refine SL.Ok.region ?_
  refine SL.Ok.op rfl rfl rfl (SL.Pure.assign rfl rfl) ?_
  refine SL.Ok.nil ?_
  refine SL.Ok.normThen ?_
  refine hK4 _ _ ?_
  refine SL.Ok.ret (SL.retThen SL.retHere) (SL.resL rfl (.cons (.tmp rfl) .nil) rfl) (fun w' hM' hK' => ?_)
  exact ⟨rfl, hK'⟩
theorem equal_nil (p : Option Addr) (w : World) : Calls Tryz.prog 17 [.pointer none, .pointer p].toArray w fun e w' => e = .returned (.bool p.isNone) ∧ Keeps none1 w w' := by
  refine SL.calls_ok (n := 59) (W := SL.none1) (m := []) Tryz.func17 rfl Tryz.ntmps17 rfl (SL.Mem.nil _ _ _) ?_
  simp only [SL.enum, Nat.reduceAdd]
  refine SL.Ok.seq fun K1 hK1 => ?_
  refine SL.Ok.region ?_
  refine SL.Ok.op rfl rfl rfl (SL.Pure.assign rfl rfl) ?_
  refine SL.Ok.nil ?_
  refine SL.Ok.normThen ?_
  refine hK1 _ _ ?_
  refine SL.Ok.seq fun K2 hK2 => ?_
  refine SL.Ok.seq fun K3 hK3 => ?_
  refine SL.Ok.region ?_
  refine SL.Ok.op rfl rfl rfl (SL.Pure.move rfl rfl) ?_
  refine SL.Ok.op rfl rfl rfl (SL.Pure.eqNil rfl rfl rfl Tryz.underlying28) ?_
  refine SL.Ok.op rfl rfl rfl (SL.Pure.move rfl rfl) ?_
  refine SL.Ok.setT (d := 7) rfl (rfl) ?_
  refine SL.Ok.opS rfl rfl rfl rfl rfl rfl rfl ?_
  refine SL.Ok.opS rfl rfl rfl rfl rfl rfl rfl ?_
  refine SL.Ok.op rfl rfl rfl (SL.Pure.pickT rfl rfl rfl) ?_
  refine SL.Ok.nil ?_
  refine SL.Ok.normThen ?_
  refine hK3 _ _ ?_
  refine SL.Ok.condT rfl ?_
  refine SL.Ok.seq fun K4 hK4 => ?_
  refine SL.Ok.region ?_
  refine SL.Ok.op rfl rfl rfl (SL.Pure.move rfl rfl) ?_
  refine SL.Ok.op rfl rfl rfl (SL.Pure.eqNil rfl rfl rfl Tryz.underlying28) ?_
  refine SL.Ok.op rfl rfl rfl (SL.Pure.move rfl rfl) ?_
  refine SL.Ok.setT (d := 13) rfl (rfl) ?_
  refine SL.Ok.opG rfl rfl rfl rfl rfl rfl rfl (SL.Pure.move rfl rfl) ?_
  refine SL.Ok.opG rfl rfl rfl rfl rfl rfl rfl (SL.Pure.eqNil rfl rfl rfl Tryz.underlying28) ?_
  refine SL.Ok.op rfl rfl rfl (SL.Pure.pickT rfl rfl rfl) ?_
  refine SL.Ok.op rfl rfl rfl (SL.Pure.assign rfl rfl) ?_
  refine SL.Ok.nil ?_
  refine SL.Ok.normThen ?_
  refine hK4 _ _ ?_
  refine SL.Ok.ret (SL.retThen SL.retHere) (SL.resL rfl (.cons (.tmp rfl) .nil) rfl) (fun w' hM' hK' => ?_)
  exact ⟨rfl, hK'⟩
theorem equal_to_nil (b : Nat) (w : World) : Calls Tryz.prog 17 [.pointer (some ⟨b, 0, none⟩), .pointer none].toArray w fun e w' => e = .returned (.bool false) ∧ Keeps none1 w w' := by
  refine SL.calls_ok (n := 59) (W := SL.none1) (m := []) Tryz.func17 rfl Tryz.ntmps17 rfl (SL.Mem.nil _ _ _) ?_
  simp only [SL.enum, Nat.reduceAdd]
  refine SL.Ok.seq fun K1 hK1 => ?_
  refine SL.Ok.region ?_
  refine SL.Ok.op rfl rfl rfl (SL.Pure.assign rfl rfl) ?_
  refine SL.Ok.nil ?_
  refine SL.Ok.normThen ?_
  refine hK1 _ _ ?_
  refine SL.Ok.seq fun K2 hK2 => ?_
  refine SL.Ok.seq fun K3 hK3 => ?_
  refine SL.Ok.region ?_
  refine SL.Ok.op rfl rfl rfl (SL.Pure.move rfl rfl) ?_
  refine SL.Ok.op rfl rfl rfl (SL.Pure.eqNil rfl rfl rfl Tryz.underlying28) ?_
  refine SL.Ok.op rfl rfl rfl (SL.Pure.move rfl rfl) ?_
  refine SL.Ok.setF (d := 7) rfl (rfl) ?_
  refine SL.Ok.opG rfl rfl rfl rfl rfl rfl rfl (SL.Pure.move rfl rfl) ?_
  refine SL.Ok.opG rfl rfl rfl rfl rfl rfl rfl (SL.Pure.eqNil rfl rfl rfl Tryz.underlying28) ?_
  refine SL.Ok.op rfl rfl rfl (SL.Pure.pickF rfl rfl rfl) ?_
  refine SL.Ok.nil ?_
  refine SL.Ok.normThen ?_
  refine hK3 _ _ ?_
  refine SL.Ok.condT' rfl (rfl) ?_
  refine SL.Ok.seq fun K4 hK4 => ?_
  refine SL.Ok.region ?_
  refine SL.Ok.op rfl rfl rfl (SL.Pure.move rfl rfl) ?_
  refine SL.Ok.op rfl rfl rfl (SL.Pure.eqNil rfl rfl rfl Tryz.underlying28) ?_
  refine SL.Ok.op rfl rfl rfl (SL.Pure.move rfl rfl) ?_
  refine SL.Ok.setF (d := 13) rfl (rfl) ?_
  refine SL.Ok.opS rfl rfl rfl rfl rfl rfl rfl ?_
  refine SL.Ok.opS rfl rfl rfl rfl rfl rfl rfl ?_
  refine SL.Ok.op rfl rfl rfl (SL.Pure.pickF rfl rfl rfl) ?_
  refine SL.Ok.op rfl rfl rfl (SL.Pure.assign rfl rfl) ?_
  refine SL.Ok.nil ?_
  refine SL.Ok.normThen ?_
  refine hK4 _ _ ?_
  refine SL.Ok.ret (SL.retThen SL.retHere) (SL.resL rfl (.cons (.tmp rfl) .nil) rfl) (fun w' hM' hK' => ?_)
  exact ⟨rfl, hK'⟩

theorem nil_walk (v : Int) (id : B 32) (f : Int) (x : List UInt8) (hx : x.length ≤ 140737488351232) (w : World) :
    Calls Tryz.prog 3 [.agg (flat (rcmd v id f x))].toArray w fun e w' => e = .returned (.bool true) ∧ Keeps none1 w w' := by
  by_cases h1 : 300 < x.length
  · skip
    refine SL.calls_ok (n := 109) (W := SL.none1) (m := []) Tryz.func3 rfl Tryz.ntmps3 rfl (SL.Mem.nil _ _ _) ?_
    simp only [SL.enum, Nat.reduceAdd]
    refine SL.Ok.seq fun K1 hK1 => ?_
    refine SL.Ok.region ?_
    refine SL.Ok.eff rfl (SL.Eff.box (rcmd v id f x) rfl rfl rfl rfl rfl) ?_
    intro b1 _
    try simp only [SL.setN, SL.putD, SL.selM, SL.nth, List.cons_append, List.nil_append]
    refine SL.Ok.op rfl rfl rfl (SL.Pure.assign rfl rfl) ?_
    refine SL.Ok.nil ?_
    refine SL.Ok.normThen ?_
    refine hK1 _ _ ?_
    refine SL.Ok.seq fun K2 hK2 => ?_
    refine SL.Ok.seq fun K3 hK3 => ?_
    refine SL.Ok.region ?_
    refine SL.Ok.eff rfl (SL.Eff.callV rfl rfl (by kernel_rfl) rfl rfl (fun w hM hK => known_c w)) ?_
    intro _ _
    try simp only [SL.setN, SL.putD, SL.selM, SL.nth, List.cons_append, List.nil_append]
    refine SL.Ok.op rfl rfl rfl (SL.Pure.not rfl rfl) ?_
    refine SL.Ok.op rfl rfl rfl (SL.Pure.move rfl rfl) ?_
    refine SL.Ok.setF (d := 13) rfl (rfl) ?_
    refine SL.Ok.opG rfl rfl rfl rfl rfl rfl rfl (SL.Pure.fieldAddr (k := 34) rfl rfl (by kernel_rfl) rfl) ?_
    refine SL.Ok.opG rfl rfl rfl rfl rfl rfl rfl (by first | exact SL.Pure.load1 0 rfl rfl rfl rfl (by kernel_rfl)) ?_
    refine SL.Ok.opG rfl rfl rfl rfl rfl rfl rfl (SL.Pure.lenS rfl rfl rfl Tryz.underlying9) ?_
    refine SL.Ok.opG rfl rfl rfl rfl rfl rfl rfl (SL.Pure.gtr rfl rfl rfl) ?_
    refine SL.Ok.op rfl rfl rfl (SL.Pure.pickF rfl rfl rfl) ?_
    refine SL.Ok.nil ?_
    refine SL.Ok.normThen ?_
    refine hK3 _ _ ?_
    refine SL.Ok.condT' rfl (by simp; omega) ?_
    refine SL.Ok.seq fun K4 hK4 => ?_
    refine SL.Ok.region ?_
    refine SL.Ok.eff rfl (SL.Eff.callV rfl rfl (by kernel_rfl) rfl rfl (fun w hM hK => known_c w)) ?_
    intro _ _
    try simp only [SL.setN, SL.putD, SL.selM, SL.nth, List.cons_append, List.nil_append]
    refine SL.Ok.op rfl rfl rfl (SL.Pure.assign rfl rfl) ?_
    refine SL.Ok.nil ?_
    refine SL.Ok.normThen ?_
    refine hK4 _ _ ?_
    refine SL.Ok.ret (SL.retThen SL.retHere) (SL.resL rfl (.cons (.tmp rfl) .nil) rfl) (fun w' hM' hK' => ?_)
    exact ⟨rfl, hK'⟩
  refine SL.calls_ok (n := 109) (W := SL.none1) (m := []) Tryz.func3 rfl Tryz.ntmps3 rfl (SL.Mem.nil _ _ _) ?_
  simp only [SL.enum, Nat.reduceAdd]
  refine SL.Ok.seq fun K1 hK1 => ?_
  refine SL.Ok.region ?_
  refine SL.Ok.eff rfl (SL.Eff.box (rcmd v id f x) rfl rfl rfl rfl rfl) ?_
  intro b1 _
  try simp only [SL.setN, SL.putD, SL.selM, SL.nth, List.cons_append, List.nil_append]
  refine SL.Ok.op rfl rfl rfl (SL.Pure.assign rfl rfl) ?_
  refine SL.Ok.nil ?_
  refine SL.Ok.normThen ?_
  refine hK1 _ _ ?_
  refine SL.Ok.seq fun K2 hK2 => ?_
  refine SL.Ok.seq fun K3 hK3 => ?_
  refine SL.Ok.region ?_
  refine SL.Ok.eff rfl (SL.Eff.callV rfl rfl (by kernel_rfl) rfl rfl (fun w hM hK => known_c w)) ?_
  intro _ _
  try simp only [SL.setN, SL.putD, SL.selM, SL.nth, List.cons_append, List.nil_append]
  refine SL.Ok.op rfl rfl rfl (SL.Pure.not rfl rfl) ?_
  refine SL.Ok.op rfl rfl rfl (SL.Pure.move rfl rfl) ?_
  refine SL.Ok.setF (d := 13) rfl (rfl) ?_
  refine SL.Ok.opG rfl rfl rfl rfl rfl rfl rfl (SL.Pure.fieldAddr (k := 34) rfl rfl (by kernel_rfl) rfl) ?_
  refine SL.Ok.opG rfl rfl rfl rfl rfl rfl rfl (by first | exact SL.Pure.load1 0 rfl rfl rfl rfl (by kernel_rfl)) ?_
  refine SL.Ok.opG rfl rfl rfl rfl rfl rfl rfl (SL.Pure.lenS rfl rfl rfl Tryz.underlying9) ?_
  refine SL.Ok.opG rfl rfl rfl rfl rfl rfl rfl (SL.Pure.gtr rfl rfl rfl) ?_
  refine SL.Ok.op rfl rfl rfl (SL.Pure.pickF rfl rfl rfl) ?_
  refine SL.Ok.nil ?_
  refine SL.Ok.normThen ?_
  refine hK3 _ _ ?_
  refine SL.Ok.condF' rfl (by simp; omega) ?_
  refine SL.Ok.skip' ?_
  refine SL.Ok.normThen ?_
  refine hK2 _ _ ?_
  refine SL.Ok.seq fun K4 hK4 => ?_
  refine SL.Ok.region ?_
  refine SL.Ok.op rfl rfl rfl (SL.Pure.assign rfl rfl) ?_
  refine SL.Ok.nil ?_
  refine SL.Ok.normThen ?_
  refine hK4 _ _ ?_
  refine SL.Ok.seq fun K5 hK5 => ?_
  refine SL.Ok.region ?_
  refine SL.Ok.op rfl rfl rfl (SL.Pure.assign rfl rfl) ?_
  refine SL.Ok.nil ?_
  refine SL.Ok.normThen ?_
  refine hK5 _ _ ?_
  refine SL.Ok.seq fun K6 hK6 => ?_
  refine SL.Ok.region ?_
  refine SL.Ok.op rfl rfl rfl (SL.Pure.move rfl rfl) ?_
  refine SL.Ok.eff rfl (SL.Eff.callV rfl rfl (by kernel_rfl) rfl rfl (fun w hM hK => say_nil w)) ?_
  intro _ _
  try simp only [SL.setN, SL.putD, SL.selM, SL.nth, List.cons_append, List.nil_append]
  refine SL.Ok.op rfl rfl rfl (SL.Pure.move rfl rfl) ?_
  refine SL.Ok.op rfl rfl rfl (SL.Pure.extract rfl rfl rfl) ?_
  refine SL.Ok.op rfl rfl rfl (SL.Pure.extract rfl rfl rfl) ?_
  refine SL.Ok.eff rfl (SL.Eff.alloc [Seg.one (.int .i64 0) rfl, Seg.one (str []) rfl, (B.zero 32).seg, Seg.one (.int .i64 0) rfl, Seg.one (.int .i64 0) rfl, Seg.one (.int .i64 0) rfl, Seg.one (.int .i64 0) rfl, Seg.one (str []) rfl] rfl rfl rfl (by kernel_rfl)) ?_
  intro b5 _
  try simp only [SL.setN, SL.putD, SL.selM, SL.nth, List.cons_append, List.nil_append]
  refine SL.Ok.eff rfl (by first | exact SL.Eff.storeG (k := 39) 0 _ rfl rfl rfl rfl rfl rfl (by kernel_rfl) rfl rfl | exact SL.Eff.storeG (k := 39) 1 _ rfl rfl rfl rfl rfl rfl (by kernel_rfl) rfl rfl) ?_
  intro _ _
  try simp only [SL.setN, SL.putD, SL.selM, SL.nth, List.cons_append, List.nil_append]
  refine SL.Ok.op rfl rfl rfl (SL.Pure.assign rfl rfl) ?_
  refine SL.Ok.nil ?_
  refine SL.Ok.normThen ?_
  refine hK6 _ _ ?_
  refine SL.Ok.seq fun K7 hK7 => ?_
  refine SL.Ok.region ?_
  refine SL.Ok.op rfl rfl rfl (SL.Pure.move rfl rfl) ?_
  refine SL.Ok.eff rfl (SL.Eff.callV rfl rfl (by kernel_rfl) rfl rfl (fun w hM hK => text_nil w)) ?_
  intro _ _
  try simp only [SL.setN, SL.putD, SL.selM, SL.nth, List.cons_append, List.nil_append]
  refine SL.Ok.op rfl rfl rfl (SL.Pure.move rfl rfl) ?_
  refine SL.Ok.op rfl rfl rfl (SL.Pure.extract rfl rfl rfl) ?_
  refine SL.Ok.op rfl rfl rfl (SL.Pure.extract rfl rfl rfl) ?_
  refine SL.Ok.op rfl rfl rfl (SL.Pure.assign rfl rfl) ?_
  refine SL.Ok.op rfl rfl rfl (SL.Pure.assign rfl rfl) ?_
  refine SL.Ok.nil ?_
  refine SL.Ok.normThen ?_
  refine hK7 _ _ ?_
  refine SL.Ok.seq fun K8 hK8 => ?_
  refine SL.Ok.region ?_
  refine SL.Ok.op rfl rfl rfl (SL.Pure.move rfl rfl) ?_
  refine SL.Ok.eff rfl (SL.Eff.callV rfl rfl (by kernel_rfl) rfl rfl (fun w hM hK => reset_nil w)) ?_
  intro _ _
  try simp only [SL.setN, SL.putD, SL.selM, SL.nth, List.cons_append, List.nil_append]
  refine SL.Ok.nil ?_
  refine SL.Ok.normThen ?_
  refine hK8 _ _ ?_
  refine SL.Ok.seq fun K9 hK9 => ?_
  refine SL.Ok.region ?_
  refine SL.Ok.op rfl rfl rfl (SL.Pure.fieldAddr (k := 1) rfl rfl (by kernel_rfl) rfl) ?_
  refine SL.Ok.op rfl rfl rfl (by first | exact SL.Pure.loadA 0 (k := 32) rfl rfl rfl (by kernel_rfl) rfl (by kernel_rfl) | exact SL.Pure.loadA 1 (k := 32) rfl rfl rfl (by kernel_rfl) rfl (by kernel_rfl)) ?_
  refine SL.Ok.eff rfl (SL.Eff.call [] [0, 1] rfl rfl (by kernel_rfl) rfl rfl rfl rfl (fun w hM hK => newR_ok id 3 w (by decide) (by decide))) ?_
  intro b35 _
  try simp only [SL.setN, SL.putD, SL.selM, SL.nth, List.cons_append, List.nil_append]
  refine SL.Ok.op rfl rfl rfl (SL.Pure.move rfl rfl) ?_
  refine SL.Ok.op rfl rfl rfl (SL.Pure.extract rfl rfl rfl) ?_
  refine SL.Ok.op rfl rfl rfl (SL.Pure.extract rfl rfl rfl) ?_
  refine SL.Ok.op rfl rfl rfl (SL.Pure.assign rfl rfl) ?_
  refine SL.Ok.op rfl rfl rfl (SL.Pure.assign rfl rfl) ?_
  refine SL.Ok.nil ?_
  refine SL.Ok.normThen ?_
  refine hK9 _ _ ?_
  refine SL.Ok.seq fun K10 hK10 => ?_
  refine SL.Ok.region ?_
  refine SL.Ok.op rfl rfl rfl (by first | exact SL.Pure.loadA 0 (k := 39) rfl rfl rfl (by kernel_rfl) rfl (by kernel_rfl) | exact SL.Pure.loadA 1 (k := 39) rfl rfl rfl (by kernel_rfl) rfl (by kernel_rfl) | exact SL.Pure.loadA 2 (k := 39) rfl rfl rfl (by kernel_rfl) rfl (by kernel_rfl) | exact SL.Pure.loadA 3 (k := 39) rfl rfl rfl (by kernel_rfl) rfl (by kernel_rfl)) ?_
  refine SL.Ok.op rfl rfl rfl (SL.Pure.build [(0, 1), (1, 1), (2, 32), (34, 1), (35, 1), (36, 1), (37, 1), (38, 1)] [Seg.one (.int .i64 0) rfl, Seg.one (str []) rfl, (B.zero 32).seg, Seg.one (.int .i64 0) rfl, Seg.one (.int .i64 0) rfl, Seg.one (.int .i64 0) rfl, Seg.one (.int .i64 0) rfl, Seg.one (str []) rfl] rfl rfl .nil (by kernel_rfl) (by kernel_rfl) rfl) ?_
  refine SL.Ok.op rfl rfl rfl (SL.Pure.eqAgg (r := true) rfl rfl rfl (by kernel_rfl) (fun w => by kernel_rfl)) ?_
  refine SL.Ok.op rfl rfl rfl (SL.Pure.move rfl rfl) ?_
  refine SL.Ok.setT (d := 41) rfl (rfl) ?_
  refine SL.Ok.opG rfl rfl rfl rfl rfl rfl rfl (SL.Pure.move rfl rfl) ?_
  refine SL.Ok.opG rfl rfl rfl rfl rfl rfl rfl (SL.Pure.not rfl rfl) ?_
  refine SL.Ok.op rfl rfl rfl (SL.Pure.pickT rfl rfl rfl) ?_
  refine SL.Ok.op rfl rfl rfl (SL.Pure.move rfl rfl) ?_
  refine SL.Ok.setT (d := 45) rfl (rfl) ?_
  refine SL.Ok.opG rfl rfl rfl rfl rfl rfl rfl (SL.Pure.move rfl rfl) ?_
  refine SL.Ok.effG rfl rfl rfl rfl rfl (SL.Eff.callV rfl rfl (by kernel_rfl) rfl rfl (fun w hM hK => sent_nil w)) ?_
  intro _ _
  simp only [SL.setN, SL.putD, SL.selM, SL.nth, List.cons_append, List.nil_append]
  refine SL.Ok.opG rfl rfl rfl rfl rfl rfl rfl (SL.Pure.eqi rfl rfl rfl) ?_
  refine SL.Ok.op rfl rfl rfl (SL.Pure.pickT rfl rfl rfl) ?_
  refine SL.Ok.op rfl rfl rfl (SL.Pure.move rfl rfl) ?_
  refine SL.Ok.setT (d := 50) rfl (rfl) ?_
  refine SL.Ok.opG rfl rfl rfl rfl rfl rfl rfl (SL.Pure.move rfl rfl) ?_
  refine SL.Ok.effG rfl rfl rfl rfl rfl (SL.Eff.callV rfl rfl (by kernel_rfl) rfl rfl (fun w hM hK => ended_nil w)) ?_
  intro _ _
  simp only [SL.setN, SL.putD, SL.selM, SL.nth, List.cons_append, List.nil_append]
  refine SL.Ok.opG rfl rfl rfl rfl rfl rfl rfl (SL.Pure.not rfl rfl) ?_
  refine SL.Ok.op rfl rfl rfl (SL.Pure.pickT rfl rfl rfl) ?_
  refine SL.Ok.op rfl rfl rfl (SL.Pure.move rfl rfl) ?_
  refine SL.Ok.setT (d := 55) rfl (rfl) ?_
  refine SL.Ok.opG rfl rfl rfl rfl rfl rfl rfl (SL.Pure.move rfl rfl) ?_
  refine SL.Ok.opG rfl rfl rfl rfl rfl rfl rfl (by first | exact SL.Pure.loadA 0 (k := 35) rfl rfl rfl (by kernel_rfl) rfl (by kernel_rfl) | exact SL.Pure.loadA 1 (k := 35) rfl rfl rfl (by kernel_rfl) rfl (by kernel_rfl) | exact SL.Pure.loadA 2 (k := 35) rfl rfl rfl (by kernel_rfl) rfl (by kernel_rfl) | exact SL.Pure.loadA 3 (k := 35) rfl rfl rfl (by kernel_rfl) rfl (by kernel_rfl)) ?_
  refine SL.Ok.effG rfl rfl rfl rfl rfl (SL.Eff.callV rfl rfl (by kernel_rfl) rfl rfl (fun w hM hK => own_c v id f x w)) ?_
  intro _ _
  simp only [SL.setN, SL.putD, SL.selM, SL.nth, List.cons_append, List.nil_append]
  refine SL.Ok.effG rfl rfl rfl rfl rfl (SL.Eff.callV rfl rfl (by kernel_rfl) rfl rfl (fun w hM hK => hear_nil _ w)) ?_
  intro _ _
  simp only [SL.setN, SL.putD, SL.selM, SL.nth, List.cons_append, List.nil_append]
  refine SL.Ok.opG rfl rfl rfl rfl rfl rfl rfl (SL.Pure.eqi rfl rfl rfl) ?_
  refine SL.Ok.op rfl rfl rfl (SL.Pure.pickT rfl rfl rfl) ?_
  refine SL.Ok.op rfl rfl rfl (SL.Pure.move rfl rfl) ?_
  refine SL.Ok.setT (d := 62) rfl (rfl) ?_
  refine SL.Ok.opG rfl rfl rfl rfl rfl rfl rfl (SL.Pure.move rfl rfl) ?_
  refine SL.Ok.effG rfl rfl rfl rfl rfl (SL.Eff.callV rfl rfl (by kernel_rfl) rfl rfl (fun w hM hK => from_nil w)) ?_
  intro _ _
  simp only [SL.setN, SL.putD, SL.selM, SL.nth, List.cons_append, List.nil_append]
  refine SL.Ok.opG rfl rfl rfl rfl rfl rfl rfl (SL.Pure.eqi rfl rfl rfl) ?_
  refine SL.Ok.op rfl rfl rfl (SL.Pure.pickT rfl rfl rfl) ?_
  refine SL.Ok.op rfl rfl rfl (SL.Pure.move rfl rfl) ?_
  refine SL.Ok.setT (d := 67) rfl (rfl) ?_
  refine SL.Ok.opG rfl rfl rfl rfl rfl rfl rfl (SL.Pure.move rfl rfl) ?_
  refine SL.Ok.effG rfl rfl rfl rfl rfl (SL.Eff.callV rfl rfl (by kernel_rfl) rfl rfl (fun w hM hK => complete_nil w)) ?_
  intro _ _
  simp only [SL.setN, SL.putD, SL.selM, SL.nth, List.cons_append, List.nil_append]
  refine SL.Ok.opG rfl rfl rfl rfl rfl rfl rfl (SL.Pure.not rfl rfl) ?_
  refine SL.Ok.op rfl rfl rfl (SL.Pure.pickT rfl rfl rfl) ?_
  refine SL.Ok.op rfl rfl rfl (SL.Pure.move rfl rfl) ?_
  refine SL.Ok.setT (d := 72) rfl (rfl) ?_
  refine SL.Ok.opG rfl rfl rfl rfl rfl rfl rfl (SL.Pure.move rfl rfl) ?_
  refine SL.Ok.opG rfl rfl rfl rfl rfl rfl rfl (SL.Pure.eqS rfl rfl rfl) ?_
  refine SL.Ok.op rfl rfl rfl (SL.Pure.pickT rfl rfl rfl) ?_
  refine SL.Ok.op rfl rfl rfl (SL.Pure.move rfl rfl) ?_
  refine SL.Ok.setT (d := 76) rfl (rfl) ?_
  refine SL.Ok.opG rfl rfl rfl rfl rfl rfl rfl (SL.Pure.move rfl rfl) ?_
  refine SL.Ok.opG rfl rfl rfl rfl rfl rfl rfl (SL.Pure.eqi rfl rfl rfl) ?_
  refine SL.Ok.op rfl rfl rfl (SL.Pure.pickT rfl rfl rfl) ?_
  refine SL.Ok.op rfl rfl rfl (SL.Pure.move rfl rfl) ?_
  refine SL.Ok.setT (d := 80) rfl (rfl) ?_
  refine SL.Ok.opG rfl rfl rfl rfl rfl rfl rfl (SL.Pure.move rfl rfl) ?_
  refine SL.Ok.effG rfl rfl rfl rfl rfl (SL.Eff.callV rfl rfl (by kernel_rfl) rfl rfl (fun w hM hK => accept_nil w)) ?_
  intro _ _
  simp only [SL.setN, SL.putD, SL.selM, SL.nth, List.cons_append, List.nil_append]
  refine SL.Ok.opG rfl rfl rfl rfl rfl rfl rfl (SL.Pure.eqi rfl rfl rfl) ?_
  refine SL.Ok.op rfl rfl rfl (SL.Pure.pickT rfl rfl rfl) ?_
  refine SL.Ok.op rfl rfl rfl (SL.Pure.move rfl rfl) ?_
  refine SL.Ok.setT (d := 85) rfl (rfl) ?_
  refine SL.Ok.opG rfl rfl rfl rfl rfl rfl rfl (SL.Pure.move rfl rfl) ?_
  refine SL.Ok.effG rfl rfl rfl rfl rfl (SL.Eff.callV rfl rfl (by kernel_rfl) rfl rfl (fun w hM hK => clone_nil w)) ?_
  intro _ _
  simp only [SL.setN, SL.putD, SL.selM, SL.nth, List.cons_append, List.nil_append]
  refine SL.Ok.opG rfl rfl rfl rfl rfl rfl rfl (SL.Pure.eqNil rfl rfl rfl Tryz.underlying28) ?_
  refine SL.Ok.op rfl rfl rfl (SL.Pure.pickT rfl rfl rfl) ?_
  refine SL.Ok.op rfl rfl rfl (SL.Pure.move rfl rfl) ?_
  refine SL.Ok.setT (d := 90) rfl (rfl) ?_
  refine SL.Ok.opG rfl rfl rfl rfl rfl rfl rfl (SL.Pure.move rfl rfl) ?_
  refine SL.Ok.effG rfl rfl rfl rfl rfl (SL.Eff.callV rfl rfl (by kernel_rfl) rfl rfl (fun w hM hK => equal_nil none w)) ?_
  intro _ _
  simp only [SL.setN, SL.putD, SL.selM, SL.nth, List.cons_append, List.nil_append]
  refine SL.Ok.op rfl rfl rfl (SL.Pure.pickT rfl rfl rfl) ?_
  refine SL.Ok.op rfl rfl rfl (SL.Pure.move rfl rfl) ?_
  refine SL.Ok.setT (d := 94) rfl (rfl) ?_
  refine SL.Ok.opG rfl rfl rfl rfl rfl rfl rfl (SL.Pure.move rfl rfl) ?_
  refine SL.Ok.opG rfl rfl rfl rfl rfl rfl rfl (SL.Pure.eqi rfl rfl rfl) ?_
  refine SL.Ok.op rfl rfl rfl (SL.Pure.pickT rfl rfl rfl) ?_
  refine SL.Ok.op rfl rfl rfl (SL.Pure.move rfl rfl) ?_
  refine SL.Ok.setT (d := 98) rfl (rfl) ?_
  refine SL.Ok.opG rfl rfl rfl rfl rfl rfl rfl (SL.Pure.move rfl rfl) ?_
  refine SL.Ok.opG rfl rfl rfl rfl rfl rfl rfl (SL.Pure.move rfl rfl) ?_
  refine SL.Ok.effG rfl rfl rfl rfl rfl (SL.Eff.callV rfl rfl (by kernel_rfl) rfl rfl (fun w hM hK => equal_nil (some ⟨b35, 0, none⟩) w)) ?_
  intro _ _
  simp only [SL.setN, SL.putD, SL.selM, SL.nth, List.cons_append, List.nil_append]
  refine SL.Ok.opG rfl rfl rfl rfl rfl rfl rfl (SL.Pure.not rfl rfl) ?_
  refine SL.Ok.op rfl rfl rfl (SL.Pure.pickT rfl rfl rfl) ?_
  refine SL.Ok.op rfl rfl rfl (SL.Pure.move rfl rfl) ?_
  refine SL.Ok.setT (d := 104) rfl (rfl) ?_
  refine SL.Ok.opG rfl rfl rfl rfl rfl rfl rfl (SL.Pure.move rfl rfl) ?_
  refine SL.Ok.effG rfl rfl rfl rfl rfl (SL.Eff.callV rfl rfl (by kernel_rfl) rfl rfl (fun w hM hK => equal_to_nil b35 w)) ?_
  intro _ _
  simp only [SL.setN, SL.putD, SL.selM, SL.nth, List.cons_append, List.nil_append]
  refine SL.Ok.opG rfl rfl rfl rfl rfl rfl rfl (SL.Pure.not rfl rfl) ?_
  refine SL.Ok.op rfl rfl rfl (SL.Pure.pickT rfl rfl rfl) ?_
  refine SL.Ok.op rfl rfl rfl (SL.Pure.assign rfl rfl) ?_
  refine SL.Ok.nil ?_
  refine SL.Ok.normThen ?_
  refine hK10 _ _ ?_
  refine SL.Ok.ret SL.retHere (SL.resL rfl (.cons (.tmp rfl) .nil) rfl) (fun w' hM' hK' => ?_)
  exact ⟨rfl, hK'⟩

theorem rd_rcmd {g : Nat} {w : World} {ss : List Seg} (h : Rd Tryz.prog w (g + 3) 25 ss) : ∃ v i f x, ss = rcmd v i f x ∧ x.length ≤ 140737488351232 := by
  simp only [Rd, Tryz.underlying25, RdL, Tryz.underlying3, Tryz.underlying23, Tryz.underlying9] at h
  obtain ⟨p1, q1, rfl, ⟨v, rfl, hv⟩, p2, q2, rfl, ⟨b, rfl⟩, p3, q3, rfl, ⟨f, rfl, hf⟩, p4, q4, rfl, ⟨x, rfl, hx⟩, rfl⟩ := h
  exact ⟨v, b, f, x, rfl, hx⟩

end Go.Proofs.YtehjohfpegbhmaaGreatDoor
