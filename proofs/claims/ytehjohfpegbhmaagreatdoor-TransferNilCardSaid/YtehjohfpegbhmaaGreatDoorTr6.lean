/- What the laws of package transfer share: known, same. -/
import Derived.Test.YtehjohfpegbhmaaGreatDoorTr5
namespace Go.Proofs.YtehjohfpegbhmaaGreatDoor
open Go.SL Go.RowKit
set_option linter.unusedVariables false
set_option maxRecDepth 100000
set_option linter.unusedSimpArgs false

theorem say_eq (b : Nat) (s s' : SS) (q : List Seg) (f : Bool) (hs : say s = (s', q, f)) (hi : sinv s) (w : World) (hm : Mem (blocksOf (smem b s)) w (smem b s) w) :
    Calls Tryz.prog 5 [.pointer (some ⟨b, 0, none⟩)].toArray w fun e w' => ∃ _ : Unit, True ∧ e = .returned (.tuple #[.agg (flat q), .bool f]) ∧ Post w (blocksOf (smem b s)) (smem b s') w' := by
  have h := say_c b s hi w hm
  rw [hs] at h
  exact h

theorem hear_eq (b : Nat) (r r' : RS) (k : Int) (x : BX) (v : Int) (i : B 32) (f : Int) (t : List UInt8) (hh : hear r v i f t = (r', k)) (hok : rok b r x) (hi : rinv r) (w : World) (hm : Mem (blocksOf (rmem b r x)) w (rmem b r x) w) :
    Calls Tryz.prog 11 [.pointer (some ⟨b, 0, none⟩), .agg (flat (ccmd v i f t))].toArray w fun e w' => ∃ y : BX, rok b r' y ∧ e = .returned (.int .i64 k) ∧ Post w (blocksOf (rmem b r x)) (rmem b r' y) w' := by
  have h := hear_c b r x hok hi v i f t w hm
  rw [hh] at h
  exact h

def id1 : B 32 := ⟨1 :: List.replicate 31 0, rfl⟩
def ks0 : SS := ⟨id1, [97, 98, 99, 100, 101], 2, 0, false⟩

theorem rok_new (b : Nat) (id : B 32) (k : Int) : rok b ⟨id, k, [], false⟩ ⟨none, none, 0⟩ := ⟨.inl rfl, trivial⟩

theorem known_c (w : World) : Calls Tryz.prog 4 [].toArray w fun e w' => e = .returned (.bool true) ∧ Keeps none1 w w' := by
  refine SL.calls_ok (n := 69) (W := SL.none1) (m := []) Tryz.func4 rfl Tryz.ntmps4 rfl (SL.Mem.nil _ _ _) ?_
  simp only [SL.enum, Nat.reduceAdd]
  refine SL.Ok.seq fun K1 hK1 => ?_
  refine SL.Ok.region ?_
  refine SL.Ok.op rfl rfl rfl (SL.Pure.assign rfl rfl) ?_
  refine SL.Ok.nil ?_
  refine SL.Ok.normThen ?_
  refine hK1 _ _ ?_
  refine SL.Ok.seq fun K2 hK2 => ?_
  refine SL.Ok.region ?_
  refine SL.Ok.op rfl rfl rfl (SL.Pure.buildK (q := [id1.seg]) rfl rfl (by kernel_rfl)) ?_
  refine SL.Ok.eff rfl (SL.Eff.call [] [] rfl rfl (by kernel_rfl) rfl rfl rfl rfl (fun w hM hK => newS_ok id1 [97, 98, 99, 100, 101] 2 0 w (by decide) (by decide) (by decide) (by decide) (by decide))) ?_
  intro b11 _
  try simp only [SL.setN, SL.putD, SL.selM, SL.nth, List.cons_append, List.nil_append]
  refine SL.Ok.op rfl rfl rfl (SL.Pure.move rfl rfl) ?_
  refine SL.Ok.op rfl rfl rfl (SL.Pure.extract rfl rfl rfl) ?_
  refine SL.Ok.op rfl rfl rfl (SL.Pure.extract rfl rfl rfl) ?_
  refine SL.Ok.op rfl rfl rfl (SL.Pure.assign rfl rfl) ?_
  refine SL.Ok.op rfl rfl rfl (SL.Pure.assign rfl rfl) ?_
  refine SL.Ok.nil ?_
  refine SL.Ok.normThen ?_
  refine hK2 _ _ ?_
  refine SL.Ok.seq fun K3 hK3 => ?_
  refine SL.Ok.region ?_
  refine SL.Ok.op rfl rfl rfl (SL.Pure.move rfl rfl) ?_
  refine SL.Ok.eff rfl (SL.Eff.call [0] [] rfl rfl (by kernel_rfl) rfl rfl rfl rfl (fun w hM hK => say_eq b11 ⟨id1, [97, 98, 99, 100, 101], 2, 0, false⟩ ⟨id1, [97, 98, 99, 100, 101], 2, 2, false⟩ (cmd 7 [] id1 0 0 0 0 [97, 98]) true rfl (by unfold sinv; decide) w (hM.sel [0] rfl).own)) ?_
  intro _ _
  try simp only [SL.setN, SL.putD, SL.selM, SL.nth, List.cons_append, List.nil_append]
  refine SL.Ok.op rfl rfl rfl (SL.Pure.move rfl rfl) ?_
  refine SL.Ok.op rfl rfl rfl (SL.Pure.extract rfl rfl rfl) ?_
  refine SL.Ok.op rfl rfl rfl (SL.Pure.extract rfl rfl rfl) ?_
  refine SL.Ok.eff rfl (SL.Eff.alloc [Seg.one (.int .i64 0) rfl, Seg.one (str []) rfl, (B.zero 32).seg, Seg.one (.int .i64 0) rfl, Seg.one (.int .i64 0) rfl, Seg.one (.int .i64 0) rfl, Seg.one (.int .i64 0) rfl, Seg.one (str []) rfl] rfl rfl rfl (by kernel_rfl)) ?_
  intro b3 _
  try simp only [SL.setN, SL.putD, SL.selM, SL.nth, List.cons_append, List.nil_append]
  refine SL.Ok.eff rfl (by first | exact SL.Eff.storeG (k := 39) 0 _ rfl rfl rfl rfl rfl rfl (by kernel_rfl) rfl rfl | exact SL.Eff.storeG (k := 39) 1 _ rfl rfl rfl rfl rfl rfl (by kernel_rfl) rfl rfl) ?_
  intro _ _
  try simp only [SL.setN, SL.putD, SL.selM, SL.nth, List.cons_append, List.nil_append]
  refine SL.Ok.op rfl rfl rfl (SL.Pure.assign rfl rfl) ?_
  refine SL.Ok.nil ?_
  refine SL.Ok.normThen ?_
  refine hK3 _ _ ?_
  refine SL.Ok.seq fun K4 hK4 => ?_
  refine SL.Ok.region ?_
  refine SL.Ok.op rfl rfl rfl (SL.Pure.move rfl rfl) ?_
  refine SL.Ok.eff rfl (SL.Eff.call [1] [0] rfl rfl (by kernel_rfl) rfl rfl rfl rfl (fun w hM hK => say_eq b11 ⟨id1, [97, 98, 99, 100, 101], 2, 2, false⟩ ⟨id1, [97, 98, 99, 100, 101], 2, 4, false⟩ (cmd 7 [] id1 0 2 0 0 [99, 100]) true rfl (by unfold sinv; decide) w (hM.sel [1] rfl).own)) ?_
  intro _ _
  try simp only [SL.setN, SL.putD, SL.selM, SL.nth, List.cons_append, List.nil_append]
  refine SL.Ok.op rfl rfl rfl (SL.Pure.move rfl rfl) ?_
  refine SL.Ok.op rfl rfl rfl (SL.Pure.extract rfl rfl rfl) ?_
  refine SL.Ok.op rfl rfl rfl (SL.Pure.extract rfl rfl rfl) ?_
  refine SL.Ok.eff rfl (SL.Eff.alloc [Seg.one (.int .i64 0) rfl, Seg.one (str []) rfl, (B.zero 32).seg, Seg.one (.int .i64 0) rfl, Seg.one (.int .i64 0) rfl, Seg.one (.int .i64 0) rfl, Seg.one (.int .i64 0) rfl, Seg.one (str []) rfl] rfl rfl rfl (by kernel_rfl)) ?_
  intro b5 _
  try simp only [SL.setN, SL.putD, SL.selM, SL.nth, List.cons_append, List.nil_append]
  refine SL.Ok.eff rfl (by first | exact SL.Eff.storeG (k := 39) 0 _ rfl rfl rfl rfl rfl rfl (by kernel_rfl) rfl rfl | exact SL.Eff.storeG (k := 39) 1 _ rfl rfl rfl rfl rfl rfl (by kernel_rfl) rfl rfl | exact SL.Eff.storeG (k := 39) 2 _ rfl rfl rfl rfl rfl rfl (by kernel_rfl) rfl rfl) ?_
  intro _ _
  try simp only [SL.setN, SL.putD, SL.selM, SL.nth, List.cons_append, List.nil_append]
  refine SL.Ok.op rfl rfl rfl (SL.Pure.assign rfl rfl) ?_
  refine SL.Ok.nil ?_
  refine SL.Ok.normThen ?_
  refine hK4 _ _ ?_
  refine SL.Ok.seq fun K5 hK5 => ?_
  refine SL.Ok.region ?_
  refine SL.Ok.op rfl rfl rfl (SL.Pure.buildK (q := [id1.seg]) rfl rfl (by kernel_rfl)) ?_
  refine SL.Ok.eff rfl (SL.Eff.call [] [0, 1, 2] rfl rfl (by kernel_rfl) rfl rfl rfl rfl (fun w hM hK => newR_ok id1 5 w (by decide) (by decide))) ?_
  intro b26 _
  try simp only [SL.setN, SL.putD, SL.selM, SL.nth, List.cons_append, List.nil_append]
  refine SL.Ok.op rfl rfl rfl (SL.Pure.move rfl rfl) ?_
  refine SL.Ok.op rfl rfl rfl (SL.Pure.extract rfl rfl rfl) ?_
  refine SL.Ok.op rfl rfl rfl (SL.Pure.extract rfl rfl rfl) ?_
  refine SL.Ok.op rfl rfl rfl (SL.Pure.assign rfl rfl) ?_
  refine SL.Ok.op rfl rfl rfl (SL.Pure.assign rfl rfl) ?_
  refine SL.Ok.nil ?_
  refine SL.Ok.normThen ?_
  refine hK5 _ _ ?_
  refine SL.Ok.seq fun K6 hK6 => ?_
  refine SL.Ok.held [2, 3, 4] mixed rfl rfl ?_
  simp only [List.replicate, List.length_cons, List.length_nil, Nat.reduceAdd]
  refine SL.OkH.take 0 rfl rfl rfl rfl (by kernel_rfl) (by kernel_rfl) (by kernel_rfl) rfl (fun _ _ _ h => h) [2, 3, 4] rfl rfl (SL.Pure.move rfl rfl) ?_
  refine SL.OkH.take 1 rfl rfl rfl rfl (by kernel_rfl) (by kernel_rfl) (by kernel_rfl) rfl (fun _ _ _ h => h) [2, 3, 4] rfl rfl (SL.Pure.eqi rfl rfl rfl) ?_
  refine SL.OkH.take 2 rfl rfl rfl rfl (by kernel_rfl) (by kernel_rfl) (by kernel_rfl) rfl (fun _ _ _ h => h) [2, 3, 4] rfl rfl (SL.Pure.move rfl rfl) ?_
  refine SL.OkH.setT (d := 31) rfl (rfl) ?_
  refine SL.OkH.takeG 3 rfl rfl rfl rfl rfl rfl rfl rfl (by kernel_rfl) (by kernel_rfl) (by kernel_rfl) rfl (fun _ _ _ h => h) [2, 3, 4] rfl rfl (SL.Pure.move rfl rfl) ?_
  refine SL.OkH.take 4 rfl rfl rfl rfl (by kernel_rfl) (by kernel_rfl) (by kernel_rfl) rfl (fun _ _ _ h => h) [2, 3, 4] rfl rfl (SL.Pure.pickT rfl rfl rfl) ?_
  refine SL.OkH.take 5 rfl rfl rfl rfl (by kernel_rfl) (by kernel_rfl) (by kernel_rfl) rfl (fun _ _ _ h => h) [2, 3, 4] rfl rfl (SL.Pure.move rfl rfl) ?_
  refine SL.OkH.setT (d := 34) rfl (rfl) ?_
  refine SL.OkH.takeG 6 rfl rfl rfl rfl rfl rfl rfl rfl (by kernel_rfl) (by kernel_rfl) (by kernel_rfl) rfl (fun _ _ _ h => h) [2, 3, 4] rfl rfl (by first | exact SL.Pure.loadA 0 (k := 39) rfl rfl rfl (by kernel_rfl) rfl (by kernel_rfl) | exact SL.Pure.loadA 1 (k := 39) rfl rfl rfl (by kernel_rfl) rfl (by kernel_rfl) | exact SL.Pure.loadA 2 (k := 39) rfl rfl rfl (by kernel_rfl) rfl (by kernel_rfl) | exact SL.Pure.loadA 3 (k := 39) rfl rfl rfl (by kernel_rfl) rfl (by kernel_rfl) | exact SL.Pure.loadA 4 (k := 39) rfl rfl rfl (by kernel_rfl) rfl (by kernel_rfl)) ?_
  refine SL.OkH.takeG 7 rfl rfl rfl rfl rfl rfl rfl rfl (by kernel_rfl) (by kernel_rfl) (by kernel_rfl) rfl (fun _ _ _ h => h) [2, 3, 4] rfl rfl (SL.Pure.buildK (q := [id1.seg]) rfl rfl (by kernel_rfl)) ?_
  refine SL.OkH.takeG 8 rfl rfl rfl rfl rfl rfl rfl rfl (by kernel_rfl) (by kernel_rfl) (by kernel_rfl) rfl (fun _ _ _ h => h) [2, 3, 4] rfl rfl (SL.Pure.build [(0, 1), (1, 32), (33, 1), (34, 1)] [Seg.one (.int .i64 0) rfl, (B.zero 32).seg, Seg.one (.int .i64 0) rfl, Seg.one (str []) rfl] rfl rfl (.cons (.one rfl) (.cons .agg (.cons (.one rfl) .nil))) (by kernel_rfl) (by kernel_rfl) rfl) ?_
  refine SL.OkH.effG 9 rfl rfl rfl rfl rfl rfl (by kernel_rfl) rfl [2, 3, 4] (fun _ => rfl) rfl (SL.Eff.at rfl (SL.Eff.callV rfl rfl (by kernel_rfl) rfl rfl (fun w hM hK => own_c 7 id1 0 [97, 98] w))) ?_
  intro _ _
  try simp only [SL.setN, SL.putD, SL.selM, SL.nth, List.cons_append, List.nil_append]
  refine SL.OkH.takeG 10 rfl rfl rfl rfl rfl rfl rfl rfl (by kernel_rfl) (by kernel_rfl) (by kernel_rfl) rfl (fun _ _ _ h => h) [2, 3, 4] rfl rfl (SL.Pure.eqAgg (r := true) rfl rfl rfl (by kernel_rfl) (fun w => by kernel_rfl)) ?_
  refine SL.OkH.take 11 rfl rfl rfl rfl (by kernel_rfl) (by kernel_rfl) (by kernel_rfl) rfl (fun _ _ _ h => h) [2, 3, 4] rfl rfl (SL.Pure.pickT rfl rfl rfl) ?_
  refine SL.OkH.take 12 rfl rfl rfl rfl (by kernel_rfl) (by kernel_rfl) (by kernel_rfl) rfl (fun _ _ _ h => h) [2, 3, 4] rfl rfl (SL.Pure.move rfl rfl) ?_
  refine SL.OkH.setT (d := 41) rfl (rfl) ?_
  refine SL.OkH.takeG 13 rfl rfl rfl rfl rfl rfl rfl rfl (by kernel_rfl) (by kernel_rfl) (by kernel_rfl) rfl (fun _ _ _ h => h) [2, 3, 4] rfl rfl (SL.Pure.move rfl rfl) ?_
  refine SL.OkH.take 14 rfl rfl rfl rfl (by kernel_rfl) (by kernel_rfl) (by kernel_rfl) rfl (fun _ _ _ h => h) [2, 3, 4] rfl rfl (SL.Pure.pickT rfl rfl rfl) ?_
  refine SL.OkH.take 15 rfl rfl rfl rfl (by kernel_rfl) (by kernel_rfl) (by kernel_rfl) rfl (fun _ _ _ h => h) [2, 3, 4] rfl rfl (SL.Pure.move rfl rfl) ?_
  refine SL.OkH.setT (d := 44) rfl (rfl) ?_
  refine SL.OkH.takeG 16 rfl rfl rfl rfl rfl rfl rfl rfl (by kernel_rfl) (by kernel_rfl) (by kernel_rfl) rfl (fun _ _ _ h => h) [2, 3, 4] rfl rfl (SL.Pure.fieldAddr (k := 35) rfl rfl (by kernel_rfl) rfl) ?_
  refine SL.OkH.takeG 17 rfl rfl rfl rfl rfl rfl rfl rfl (by kernel_rfl) (by kernel_rfl) (by kernel_rfl) rfl (fun _ _ _ h => h) [2, 3, 4] rfl rfl (by first | exact SL.Pure.load1 0 rfl rfl rfl rfl (by kernel_rfl) | exact SL.Pure.load1 1 rfl rfl rfl rfl (by kernel_rfl) | exact SL.Pure.load1 2 rfl rfl rfl rfl (by kernel_rfl) | exact SL.Pure.load1 3 rfl rfl rfl rfl (by kernel_rfl) | exact SL.Pure.load1 4 rfl rfl rfl rfl (by kernel_rfl)) ?_
  refine SL.OkH.takeG 18 rfl rfl rfl rfl rfl rfl rfl rfl (by kernel_rfl) (by kernel_rfl) (by kernel_rfl) rfl (fun _ _ _ h => h) [2, 3, 4] rfl rfl (SL.Pure.eqi rfl rfl rfl) ?_
  refine SL.OkH.take 19 rfl rfl rfl rfl (by kernel_rfl) (by kernel_rfl) (by kernel_rfl) rfl (fun _ _ _ h => h) [2, 3, 4] rfl rfl (SL.Pure.pickT rfl rfl rfl) ?_
  refine SL.OkH.take 20 rfl rfl rfl rfl (by kernel_rfl) (by kernel_rfl) (by kernel_rfl) rfl (fun _ _ _ h => h) [2, 3, 4] rfl rfl (SL.Pure.move rfl rfl) ?_
  refine SL.OkH.setT (d := 49) rfl (rfl) ?_
  refine SL.OkH.takeG 21 rfl rfl rfl rfl rfl rfl rfl rfl (by kernel_rfl) (by kernel_rfl) (by kernel_rfl) rfl (fun _ _ _ h => h) [2, 3, 4] rfl rfl (SL.Pure.fieldAddr (k := 38) rfl rfl (by kernel_rfl) rfl) ?_
  refine SL.OkH.takeG 22 rfl rfl rfl rfl rfl rfl rfl rfl (by kernel_rfl) (by kernel_rfl) (by kernel_rfl) rfl (fun _ _ _ h => h) [2, 3, 4] rfl rfl (by first | exact SL.Pure.load1 0 rfl rfl rfl rfl (by kernel_rfl) | exact SL.Pure.load1 1 rfl rfl rfl rfl (by kernel_rfl) | exact SL.Pure.load1 2 rfl rfl rfl rfl (by kernel_rfl) | exact SL.Pure.load1 3 rfl rfl rfl rfl (by kernel_rfl) | exact SL.Pure.load1 4 rfl rfl rfl rfl (by kernel_rfl)) ?_
  refine SL.OkH.takeG 23 rfl rfl rfl rfl rfl rfl rfl rfl (by kernel_rfl) (by kernel_rfl) (by kernel_rfl) rfl (fun _ _ _ h => h) [2, 3, 4] rfl rfl (SL.Pure.eqS rfl rfl rfl) ?_
  refine SL.OkH.take 24 rfl rfl rfl rfl (by kernel_rfl) (by kernel_rfl) (by kernel_rfl) rfl (fun _ _ _ h => h) [2, 3, 4] rfl rfl (SL.Pure.pickT rfl rfl rfl) ?_
  refine SL.OkH.take 25 rfl rfl rfl rfl (by kernel_rfl) (by kernel_rfl) (by kernel_rfl) rfl (fun _ _ _ h => h) [2, 3, 4] rfl rfl (SL.Pure.move rfl rfl) ?_
  refine SL.OkH.setT (d := 54) rfl (rfl) ?_
  refine SL.OkH.takeG 26 rfl rfl rfl rfl rfl rfl rfl rfl (by kernel_rfl) (by kernel_rfl) (by kernel_rfl) rfl (fun _ _ _ h => h) [2, 3, 4] rfl rfl (SL.Pure.move rfl rfl) ?_
  refine SL.OkH.takeG 27 rfl rfl rfl rfl rfl rfl rfl rfl (by kernel_rfl) (by kernel_rfl) (by kernel_rfl) rfl (fun _ _ _ h => h) [2, 3, 4] rfl rfl (SL.Pure.eqi rfl rfl rfl) ?_
  refine SL.OkH.take 28 rfl rfl rfl rfl (by kernel_rfl) (by kernel_rfl) (by kernel_rfl) rfl (fun _ _ _ h => h) [2, 3, 4] rfl rfl (SL.Pure.pickT rfl rfl rfl) ?_
  refine SL.OkH.take 29 rfl rfl rfl rfl (by kernel_rfl) (by kernel_rfl) (by kernel_rfl) rfl (fun _ _ _ h => h) [2, 3, 4] rfl rfl (SL.Pure.move rfl rfl) ?_
  refine SL.OkH.setT (d := 58) rfl (rfl) ?_
  refine SL.OkH.takeG 30 rfl rfl rfl rfl rfl rfl rfl rfl (by kernel_rfl) (by kernel_rfl) (by kernel_rfl) rfl (fun _ _ _ h => h) [2, 3, 4] rfl rfl (SL.Pure.move rfl rfl) ?_
  refine SL.OkH.takeG 31 rfl rfl rfl rfl rfl rfl rfl rfl (by kernel_rfl) (by kernel_rfl) (by kernel_rfl) rfl (fun _ _ _ h => h) [2, 3, 4] rfl rfl (by first | exact SL.Pure.loadA 0 (k := 39) rfl rfl rfl (by kernel_rfl) rfl (by kernel_rfl) | exact SL.Pure.loadA 1 (k := 39) rfl rfl rfl (by kernel_rfl) rfl (by kernel_rfl) | exact SL.Pure.loadA 2 (k := 39) rfl rfl rfl (by kernel_rfl) rfl (by kernel_rfl) | exact SL.Pure.loadA 3 (k := 39) rfl rfl rfl (by kernel_rfl) rfl (by kernel_rfl) | exact SL.Pure.loadA 4 (k := 39) rfl rfl rfl (by kernel_rfl) rfl (by kernel_rfl)) ?_
  refine SL.OkH.effG 32 rfl rfl rfl rfl rfl rfl (by kernel_rfl) rfl [2, 3, 4] (fun _ => rfl) rfl (SL.Eff.at rfl (SL.Eff.call [0, 1] [2, 3, 4] rfl rfl (by kernel_rfl) rfl rfl rfl rfl (fun w hM hK => hear_eq b26 ⟨id1, 5, [], false⟩ ⟨id1, 5, [97, 98], false⟩ 0 ⟨none, none, 0⟩ 7 id1 0 [97, 98] rfl (rok_new ..) (by unfold rinv; decide) w (hM.sel [0, 1] rfl).own))) ?_
  intro y hy
  try simp only [SL.setN, SL.putD, SL.selM, SL.nth, List.cons_append, List.nil_append]
  refine SL.OkH.takeG 33 rfl rfl rfl rfl rfl rfl rfl rfl (by kernel_rfl) (by kernel_rfl) (by kernel_rfl) rfl (fun _ _ _ h => h) [2, 3, 4] rfl rfl (SL.Pure.eqi rfl rfl rfl) ?_
  refine SL.OkH.take 34 rfl rfl rfl rfl (by kernel_rfl) (by kernel_rfl) (by kernel_rfl) rfl (fun _ _ _ h => h) [2, 3, 4] rfl rfl (SL.Pure.pickT rfl rfl rfl) ?_
  refine SL.OkH.take 35 rfl rfl rfl rfl (by kernel_rfl) (by kernel_rfl) (by kernel_rfl) rfl (fun _ _ _ h => h) [2, 3, 4] rfl rfl (SL.Pure.move rfl rfl) ?_
  refine SL.OkH.setT (d := 64) rfl (rfl) ?_
  refine SL.OkH.takeG 36 rfl rfl rfl rfl rfl rfl rfl rfl (by kernel_rfl) (by kernel_rfl) (by kernel_rfl) rfl (fun _ _ _ h => h) [2, 3, 4] rfl rfl (SL.Pure.move rfl rfl) ?_
  refine SL.OkH.effG 37 rfl rfl rfl rfl rfl rfl (by kernel_rfl) rfl [2, 3, 4] (fun _ => rfl) rfl (SL.Eff.at rfl (SL.Eff.callV rfl rfl (by kernel_rfl) rfl rfl (fun w hM hK => recv_from b26 ⟨id1, 5, [97, 98], false⟩ y w (hM.blk (i := 0) rfl)))) ?_
  intro _ _
  try simp only [SL.setN, SL.putD, SL.selM, SL.nth, List.cons_append, List.nil_append]
  refine SL.OkH.takeG 38 rfl rfl rfl rfl rfl rfl rfl rfl (by kernel_rfl) (by kernel_rfl) (by kernel_rfl) rfl (fun _ _ _ h => h) [2, 3, 4] rfl rfl (SL.Pure.eqi rfl rfl rfl) ?_
  refine SL.OkH.take 39 rfl rfl rfl rfl (by kernel_rfl) (by kernel_rfl) (by kernel_rfl) rfl (fun _ _ _ h => h) [2, 3, 4] rfl rfl (SL.Pure.pickT rfl rfl rfl) ?_
  refine SL.OkH.take 40 rfl rfl rfl rfl (by kernel_rfl) (by kernel_rfl) (by kernel_rfl) rfl (fun _ _ _ h => h) [2, 3, 4] rfl rfl (SL.Pure.assign rfl rfl) ?_
  refine SL.OkH.done (by kernel_rfl) ?_
  refine SL.Ok.normThen ?_
  refine hK6 _ _ ?_
  refine SL.Ok.ret SL.retHere (SL.resL rfl (.cons (.tmp rfl) .nil) rfl) (fun w' hM' hK' => ?_)
  exact ⟨rfl, hK'⟩

end Go.Proofs.YtehjohfpegbhmaaGreatDoor
