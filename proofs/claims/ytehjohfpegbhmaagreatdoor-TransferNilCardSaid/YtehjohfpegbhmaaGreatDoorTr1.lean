/- Contracts of package transfer: the receiver. -/
import Derived.Test.YtehjohfpegbhmaaGreatDoorBld
namespace Go.Proofs.YtehjohfpegbhmaaGreatDoor
open Go.SL Go.RowKit
set_option linter.unusedVariables false
set_option maxRecDepth 100000
set_option linter.unusedSimpArgs false

/-- the cells of a command of the reference, and of the program -/
abbrev rcmd (verb : Int) (id : B 32) (fr : Int) (t : List UInt8) : List Seg := [Seg.one (.int .i64 verb) rfl, id.seg, Seg.one (.int .i64 fr) rfl, Seg.one (str t) rfl]
abbrev cmd (verb : Int) (name : List UInt8) (id : B 32) (size fr count code : Int) (t : List UInt8) : List Seg :=
  [Seg.one (.int .i64 verb) rfl, Seg.one (str name) rfl, id.seg, Seg.one (.int .i64 size) rfl, Seg.one (.int .i64 fr) rfl, Seg.one (.int .i64 count) rfl, Seg.one (.int .i64 code) rfl, Seg.one (str t) rfl]

theorem own_c (verb : Int) (id : B 32) (fr : Int) (t : List UInt8) (w : World) :
    Calls Tryz.prog 12 [.agg (flat (rcmd verb id fr t))].toArray w fun e w' => e = .returned (.agg (flat (cmd verb [] id 0 fr 0 0 t))) ∧ Keeps none1 w w' := by
  refine SL.calls_ok (n := 12) (W := SL.none1) (m := []) Tryz.func12 rfl Tryz.ntmps12 rfl (SL.Mem.nil _ _ _) ?_
  simp only [SL.enum, Nat.reduceAdd]
  refine SL.Ok.seq fun K1 hK1 => ?_
  refine SL.Ok.region ?_
  refine SL.Ok.eff rfl (SL.Eff.box _ rfl rfl rfl rfl rfl) ?_
  intro b1 _
  try simp only [SL.setN, SL.putD, SL.selM, SL.nth, List.cons_append, List.nil_append]
  refine SL.Ok.eff rfl (SL.Eff.alloc [Seg.one (.int .i64 0) rfl, Seg.one (str []) rfl, (B.zero 32).seg, Seg.one (.int .i64 0) rfl, Seg.one (.int .i64 0) rfl, Seg.one (.int .i64 0) rfl, Seg.one (.int .i64 0) rfl, Seg.one (str []) rfl] rfl rfl rfl (by kernel_rfl)) ?_
  intro b2 _
  try simp only [SL.setN, SL.putD, SL.selM, SL.nth, List.cons_append, List.nil_append]
  refine SL.Ok.nil ?_
  refine SL.Ok.normThen ?_
  refine hK1 _ _ ?_
  refine SL.Ok.seq fun K2 hK2 => ?_
  refine SL.Ok.region ?_
  refine SL.Ok.op rfl rfl rfl (SL.Pure.fieldAddr (k := 0) rfl rfl (by kernel_rfl) rfl) ?_
  refine SL.Ok.op rfl rfl rfl (by first | exact SL.Pure.load1 0 rfl rfl rfl rfl (by kernel_rfl) | exact SL.Pure.load1 1 rfl rfl rfl rfl (by kernel_rfl)) ?_
  refine SL.Ok.op rfl rfl rfl (SL.Pure.fieldAddr (k := 1) rfl rfl (by kernel_rfl) rfl) ?_
  refine SL.Ok.op rfl rfl rfl (by first | exact SL.Pure.loadA 0 (k := 32) rfl rfl rfl (by kernel_rfl) rfl (by kernel_rfl) | exact SL.Pure.loadA 1 (k := 32) rfl rfl rfl (by kernel_rfl) rfl (by kernel_rfl)) ?_
  refine SL.Ok.op rfl rfl rfl (SL.Pure.fieldAddr (k := 33) rfl rfl (by kernel_rfl) rfl) ?_
  refine SL.Ok.op rfl rfl rfl (by first | exact SL.Pure.load1 0 rfl rfl rfl rfl (by kernel_rfl) | exact SL.Pure.load1 1 rfl rfl rfl rfl (by kernel_rfl)) ?_
  refine SL.Ok.op rfl rfl rfl (SL.Pure.fieldAddr (k := 34) rfl rfl (by kernel_rfl) rfl) ?_
  refine SL.Ok.op rfl rfl rfl (by first | exact SL.Pure.load1 0 rfl rfl rfl rfl (by kernel_rfl) | exact SL.Pure.load1 1 rfl rfl rfl rfl (by kernel_rfl)) ?_
  refine SL.Ok.op rfl rfl rfl (SL.Pure.build [(0, 1), (1, 1), (2, 32), (34, 1), (35, 1), (36, 1), (37, 1), (38, 1)] [Seg.one (.int .i64 0) rfl, Seg.one (str []) rfl, (B.zero 32).seg, Seg.one (.int .i64 0) rfl, Seg.one (.int .i64 0) rfl, Seg.one (.int .i64 0) rfl, Seg.one (.int .i64 0) rfl, Seg.one (str []) rfl] rfl rfl (.cons (.one rfl) (.cons .agg (.cons (.one rfl) (.cons (.one rfl) .nil)))) (by kernel_rfl) (by kernel_rfl) rfl) ?_
  refine SL.Ok.eff rfl (by first | exact SL.Eff.storeG (k := 39) 0 _ rfl rfl rfl rfl rfl rfl (by kernel_rfl) rfl rfl | exact SL.Eff.storeG (k := 39) 1 _ rfl rfl rfl rfl rfl rfl (by kernel_rfl) rfl rfl) ?_
  intro _ _
  try simp only [SL.setN, SL.putD, SL.selM, SL.nth, List.cons_append, List.nil_append]
  refine SL.Ok.nil ?_
  refine SL.Ok.normThen ?_
  refine hK2 _ _ ?_
  refine SL.Ok.ret SL.retHere (SL.resL rfl (.cons (SL.RV.cellA 0 (k := 39) rfl rfl (by kernel_rfl) rfl (by kernel_rfl)) .nil) rfl) (fun w' hM' hK' => ?_)
  exact ⟨rfl, hK'⟩

/-! ### A receiver -/
structure RS where
  id : B 32
  size : Int
  t : List UInt8
  fin : Bool
structure BX where
  p : Option Addr
  a : Option Addr
  c : Nat
abbrev rpre (id : B 32) (size : Int) : List Seg := [id.seg, Seg.one (.int .i64 size) rfl]
abbrev rpost (fin : Bool) : List Seg := [Seg.one (.bool fin) rfl]
abbrev rsg (r : RS) (x : BX) : List Seg := bsegs (rpre r.id r.size) x.p x.a r.t.length x.c (rpost r.fin)
abbrev rmem (b : Nat) (r : RS) (x : BX) : List Res := [.blk b (.cells (flat (rsg r x)) 54 (0, 0)), .row (.slice x.a r.t.length x.c) 5 1 r.t.length (bytesV r.t)]
def rok (b : Nat) (r : RS) (x : BX) : Prop := bldOk b (rpre r.id r.size) x.p ∧ okV (.slice x.a r.t.length x.c)
def rinv (r : RS) : Prop := 0 ≤ r.size ∧ r.size ≤ 65536 ∧ (r.t.length : Int) ≤ r.size

theorem newR_ok (id : B 32) (k : Int) (w : World) (h0 : 0 ≤ k) (h1 : k ≤ 65536) :
    Calls Tryz.prog 8 [.agg (flat [id.seg]), .int .i64 k].toArray w fun e w' => ∃ b : Nat, True ∧ e = .returned (.tuple #[.pointer (some ⟨b, 0, none⟩), .int .i64 0]) ∧ Post w (blocksOf []) (rmem b ⟨id, k, [], false⟩ ⟨none, none, 0⟩) w' := by
  refine SL.calls_ok (n := 16) (W := (blocksOf [])) (m := []) Tryz.func8 rfl Tryz.ntmps8 rfl (SL.Mem.nil _ _ _) ?_
  simp only [SL.enum, Nat.reduceAdd]
  refine SL.Ok.seq fun K1 hK1 => ?_
  refine SL.Ok.region ?_
  refine SL.Ok.eff rfl (SL.Eff.box _ rfl rfl rfl rfl rfl) ?_
  intro b2 _
  try simp only [SL.setN, SL.putD, SL.selM, SL.nth, List.cons_append, List.nil_append]
  refine SL.Ok.op rfl rfl rfl (SL.Pure.assign rfl rfl) ?_
  refine SL.Ok.op rfl rfl rfl (SL.Pure.assign rfl rfl) ?_
  refine SL.Ok.nil ?_
  refine SL.Ok.normThen ?_
  refine hK1 _ _ ?_
  refine SL.Ok.seq fun K2 hK2 => ?_
  refine SL.Ok.seq fun K3 hK3 => ?_
  refine SL.Ok.region ?_
  refine SL.Ok.op rfl rfl rfl (SL.Pure.move rfl rfl) ?_
  refine SL.Ok.op rfl rfl rfl (SL.Pure.lss rfl rfl rfl) ?_
  refine SL.Ok.op rfl rfl rfl (SL.Pure.move rfl rfl) ?_
  refine SL.Ok.setF (d := 8) rfl (by simp; omega) ?_
  refine SL.Ok.opG rfl rfl rfl rfl rfl rfl rfl (SL.Pure.move rfl rfl) ?_
  refine SL.Ok.opG rfl rfl rfl rfl rfl rfl rfl (SL.Pure.gtr rfl rfl rfl) ?_
  refine SL.Ok.op rfl rfl rfl (SL.Pure.pickF rfl rfl rfl) ?_
  refine SL.Ok.nil ?_
  refine SL.Ok.normThen ?_
  refine hK3 _ _ ?_
  refine SL.Ok.condF' rfl (by simp; omega) ?_
  refine SL.Ok.skip' ?_
  refine SL.Ok.normThen ?_
  refine hK2 _ _ ?_
  refine SL.Ok.seq fun K4 hK4 => ?_
  refine SL.Ok.region ?_
  refine SL.Ok.op rfl rfl rfl (by first | exact SL.Pure.loadA 0 (k := 32) rfl rfl rfl (by kernel_rfl) rfl (by kernel_rfl)) ?_
  refine SL.Ok.op rfl rfl rfl (SL.Pure.move rfl rfl) ?_
  refine SL.Ok.op rfl rfl rfl (SL.Pure.build [(0, 32), (32, 1), (33, 2), (35, 1)] [(B.zero 32).seg, Seg.one (.int .i64 0) rfl, Seg.one (.pointer none) rfl, Seg.one (.slice none 0 0) rfl, Seg.one (.bool false) rfl] rfl rfl (.cons .agg (.cons (.one rfl) .nil)) (by kernel_rfl) (by kernel_rfl) rfl) ?_
  refine SL.Ok.eff rfl (SL.Eff.box _ rfl rfl rfl rfl rfl) ?_
  intro b15 _
  try simp only [SL.setN, SL.putD, SL.selM, SL.nth, List.cons_append, List.nil_append]
  refine SL.Ok.op rfl rfl rfl (SL.Pure.assign rfl rfl) ?_
  refine SL.Ok.op rfl rfl rfl (SL.Pure.assign rfl rfl) ?_
  refine SL.Ok.nil ?_
  refine SL.Ok.normThen ?_
  refine hK4 _ _ ?_
  refine SL.Ok.nilRow 5 1 ?_
  refine SL.Ok.ret SL.retHere (SL.resL rfl (.cons (.tmp rfl) (.cons (.tmp rfl) .nil)) rfl) (fun w' hM' hK' => ?_)
  exact ⟨b15, trivial, rfl, hK', hM'.sel [1, 0] rfl⟩

theorem recv_from (b : Nat) (r : RS) (x : BX) (w : World) (hb : w.heap[b]? = some (.cells (flat (rsg r x)) 54 (0, 0))) :
    Calls Tryz.prog 13 [.pointer (some ⟨b, 0, none⟩)].toArray w fun e w' => e = .returned (.int .i64 r.t.length) ∧ Keeps none1 w w' := by
  refine SL.calls_ok (n := 9) (W := SL.none1) (m := []) Tryz.func13 rfl Tryz.ntmps13 rfl (SL.Mem.nil _ _ _) ?_
  simp only [SL.enum, Nat.reduceAdd]
  refine SL.Ok.seq fun K1 hK1 => ?_
  refine SL.Ok.region ?_
  refine SL.Ok.op rfl rfl rfl (SL.Pure.assign rfl rfl) ?_
  refine SL.Ok.nil ?_
  refine SL.Ok.normThen ?_
  refine hK1 _ _ ?_
  refine SL.Ok.seq fun K2 hK2 => ?_
  refine SL.Ok.seq fun K3 hK3 => ?_
  refine SL.Ok.region ?_
  refine SL.Ok.op rfl rfl rfl (SL.Pure.move rfl rfl) ?_
  refine SL.Ok.op rfl rfl rfl (SL.Pure.eqNil rfl rfl rfl Tryz.underlying28) ?_
  refine SL.Ok.nil ?_
  refine SL.Ok.normThen ?_
  refine hK3 _ _ ?_
  refine SL.Ok.condF' rfl (rfl) ?_
  refine SL.Ok.skip' ?_
  refine SL.Ok.normThen ?_
  refine hK2 _ _ ?_
  refine SL.Ok.seq fun K4 hK4 => ?_
  refine SL.Ok.region ?_
  refine SL.Ok.op rfl rfl rfl (SL.Pure.move rfl rfl) ?_
  refine SL.Ok.op rfl rfl rfl (SL.Pure.nilCheck rfl rfl) ?_
  refine SL.Ok.op rfl rfl rfl (SL.Pure.fieldAddr (k := 33) rfl rfl (by kernel_rfl) rfl) ?_
  refine SL.Ok.eff rfl (SL.Eff.callV rfl rfl (by kernel_rfl) rfl rfl (fun w hM hK => bld_len b _ _ (rpre r.id r.size) (rpost r.fin) x.p x.a r.t.length x.c w (hK.old hb (fun h => h)))) ?_
  intro _ _
  try simp only [SL.setN, SL.putD, SL.selM, SL.nth, List.cons_append, List.nil_append]
  refine SL.Ok.op rfl rfl rfl (SL.Pure.assign rfl rfl) ?_
  refine SL.Ok.nil ?_
  refine SL.Ok.normThen ?_
  refine hK4 _ _ ?_
  refine SL.Ok.ret SL.retHere (SL.resL rfl (.cons (.tmp rfl) .nil) rfl) (fun w' hM' hK' => ?_)
  exact ⟨rfl, hK'⟩

theorem recv_complete (b : Nat) (r : RS) (x : BX) (w : World) (hb : w.heap[b]? = some (.cells (flat (rsg r x)) 54 (0, 0))) :
    Calls Tryz.prog 14 [.pointer (some ⟨b, 0, none⟩)].toArray w fun e w' => e = .returned (.bool r.fin) ∧ Keeps none1 w w' := by
  refine SL.calls_ok (n := 11) (W := SL.none1) (m := []) Tryz.func14 rfl Tryz.ntmps14 rfl (SL.Mem.nil _ _ _) ?_
  simp only [SL.enum, Nat.reduceAdd]
  refine SL.Ok.seq fun K1 hK1 => ?_
  refine SL.Ok.region ?_
  refine SL.Ok.op rfl rfl rfl (SL.Pure.assign rfl rfl) ?_
  refine SL.Ok.nil ?_
  refine SL.Ok.normThen ?_
  refine hK1 _ _ ?_
  refine SL.Ok.seq fun K2 hK2 => ?_
  refine SL.Ok.region ?_
  refine SL.Ok.op rfl rfl rfl (SL.Pure.move rfl rfl) ?_
  refine SL.Ok.op rfl rfl rfl (SL.Pure.neNil rfl rfl rfl Tryz.underlying28) ?_
  refine SL.Ok.op rfl rfl rfl (SL.Pure.move rfl rfl) ?_
  refine SL.Ok.setT (d := 5) rfl (rfl) ?_
  refine SL.Ok.opG rfl rfl rfl rfl rfl rfl rfl (SL.Pure.move rfl rfl) ?_
  refine SL.Ok.opG rfl rfl rfl rfl rfl rfl rfl (SL.Pure.nilCheck rfl rfl) ?_
  refine SL.Ok.opG rfl rfl rfl rfl rfl rfl rfl (SL.Pure.fieldAddr (k := 35) rfl rfl (by kernel_rfl) rfl) ?_
  refine SL.Ok.opG rfl rfl rfl rfl rfl rfl rfl (by first | exact SL.Pure.loadO1 hb (fun h => h) rfl rfl rfl (by kernel_rfl)) ?_
  refine SL.Ok.op rfl rfl rfl (SL.Pure.pickT rfl rfl rfl) ?_
  refine SL.Ok.op rfl rfl rfl (SL.Pure.assign rfl rfl) ?_
  refine SL.Ok.nil ?_
  refine SL.Ok.normThen ?_
  refine hK2 _ _ ?_
  refine SL.Ok.ret SL.retHere (SL.resL rfl (.cons (.tmp rfl) .nil) rfl) (fun w' hM' hK' => ?_)
  exact ⟨rfl, hK'⟩

theorem recv_text_no (b : Nat) (r : RS) (x : BX) (w : World) (hb : w.heap[b]? = some (.cells (flat (rsg r x)) 54 (0, 0))) (hf : r.fin = false) :
    Calls Tryz.prog 6 [.pointer (some ⟨b, 0, none⟩)].toArray w fun e w' => e = .returned (.tuple #[str [], .int .i64 10]) ∧ Keeps none1 w w' := by
  refine SL.calls_ok (n := 17) (W := SL.none1) (m := []) Tryz.func6 rfl Tryz.ntmps6 rfl (SL.Mem.nil _ _ _) ?_
  simp only [SL.enum, Nat.reduceAdd]
  refine SL.Ok.seq fun K1 hK1 => ?_
  refine SL.Ok.region ?_
  refine SL.Ok.op rfl rfl rfl (SL.Pure.assign rfl rfl) ?_
  refine SL.Ok.op rfl rfl rfl (SL.Pure.assign rfl rfl) ?_
  refine SL.Ok.nil ?_
  refine SL.Ok.normThen ?_
  refine hK1 _ _ ?_
  refine SL.Ok.seq fun K2 hK2 => ?_
  refine SL.Ok.block ?_
  refine SL.Ok.seq fun K3 hK3 => ?_
  refine SL.Ok.region ?_
  refine SL.Ok.op rfl rfl rfl (SL.Pure.move rfl rfl) ?_
  refine SL.Ok.op rfl rfl rfl (SL.Pure.eqNil rfl rfl rfl Tryz.underlying28) ?_
  refine SL.Ok.op rfl rfl rfl (SL.Pure.assign rfl rfl) ?_
  refine SL.Ok.nil ?_
  refine SL.Ok.normThen ?_
  refine hK3 _ _ ?_
  refine SL.Ok.condF' rfl (rfl) ?_
  refine SL.Ok.seq fun K4 hK4 => ?_
  refine SL.Ok.region ?_
  refine SL.Ok.op rfl rfl rfl (SL.Pure.move rfl rfl) ?_
  refine SL.Ok.op rfl rfl rfl (SL.Pure.nilCheck rfl rfl) ?_
  refine SL.Ok.op rfl rfl rfl (SL.Pure.fieldAddr (k := 35) rfl rfl (by kernel_rfl) rfl) ?_
  refine SL.Ok.op rfl rfl rfl (by first | exact SL.Pure.loadO1 hb (fun h => h) rfl rfl rfl (by kernel_rfl)) ?_
  refine SL.Ok.op rfl rfl rfl (SL.Pure.not rfl rfl) ?_
  refine SL.Ok.op rfl rfl rfl (SL.Pure.assign rfl rfl) ?_
  refine SL.Ok.nil ?_
  refine SL.Ok.normThen ?_
  refine hK4 _ _ ?_
  refine SL.Ok.condT' rfl (by simp [hf]) ?_
  refine SL.Ok.seq fun K5 hK5 => ?_
  refine SL.Ok.region ?_
  refine SL.Ok.op rfl rfl rfl (SL.Pure.assign rfl rfl) ?_
  refine SL.Ok.op rfl rfl rfl (SL.Pure.assign rfl rfl) ?_
  refine SL.Ok.nil ?_
  refine SL.Ok.normThen ?_
  refine hK5 _ _ ?_
  refine SL.Ok.ret (SL.retBlock (SL.retThen SL.retHere)) (SL.resL rfl (.cons (.tmp rfl) (.cons (.tmp rfl) .nil)) rfl) (fun w' hM' hK' => ?_)
  exact ⟨rfl, hK'⟩

theorem recv_text_yes (b : Nat) (r : RS) (x : BX) (hok : rok b r x) (hf : r.fin = true) (w : World) (hm : Mem (blocksOf (rmem b r x)) w (rmem b r x) w) :
    Calls Tryz.prog 6 [.pointer (some ⟨b, 0, none⟩)].toArray w fun e w' => ∃ _ : Unit, True ∧ e = .returned (.tuple #[str r.t, .int .i64 0]) ∧ Post w (blocksOf (rmem b r x)) (rmem b r x) w' := by
  refine SL.calls_ok (n := 17) (W := (blocksOf (rmem b r x))) (m := rmem b r x) Tryz.func6 rfl Tryz.ntmps6 rfl hm ?_
  simp only [SL.enum, Nat.reduceAdd]
  refine SL.Ok.seq fun K1 hK1 => ?_
  refine SL.Ok.region ?_
  refine SL.Ok.op rfl rfl rfl (SL.Pure.assign rfl rfl) ?_
  refine SL.Ok.op rfl rfl rfl (SL.Pure.assign rfl rfl) ?_
  refine SL.Ok.nil ?_
  refine SL.Ok.normThen ?_
  refine hK1 _ _ ?_
  refine SL.Ok.seq fun K2 hK2 => ?_
  refine SL.Ok.block ?_
  refine SL.Ok.seq fun K3 hK3 => ?_
  refine SL.Ok.region ?_
  refine SL.Ok.op rfl rfl rfl (SL.Pure.move rfl rfl) ?_
  refine SL.Ok.op rfl rfl rfl (SL.Pure.eqNil rfl rfl rfl Tryz.underlying28) ?_
  refine SL.Ok.op rfl rfl rfl (SL.Pure.assign rfl rfl) ?_
  refine SL.Ok.nil ?_
  refine SL.Ok.normThen ?_
  refine hK3 _ _ ?_
  refine SL.Ok.condF' rfl (rfl) ?_
  refine SL.Ok.seq fun K4 hK4 => ?_
  refine SL.Ok.region ?_
  refine SL.Ok.op rfl rfl rfl (SL.Pure.move rfl rfl) ?_
  refine SL.Ok.op rfl rfl rfl (SL.Pure.nilCheck rfl rfl) ?_
  refine SL.Ok.op rfl rfl rfl (SL.Pure.fieldAddr (k := 35) rfl rfl (by kernel_rfl) rfl) ?_
  refine SL.Ok.op rfl rfl rfl (by first | exact SL.Pure.load1 0 rfl rfl rfl rfl (by kernel_rfl) | exact SL.Pure.load1 1 rfl rfl rfl rfl (by kernel_rfl)) ?_
  refine SL.Ok.op rfl rfl rfl (SL.Pure.not rfl rfl) ?_
  refine SL.Ok.op rfl rfl rfl (SL.Pure.assign rfl rfl) ?_
  refine SL.Ok.nil ?_
  refine SL.Ok.normThen ?_
  refine hK4 _ _ ?_
  refine SL.Ok.condF' rfl (by simp [hf]) ?_
  refine SL.Ok.skip' ?_
  refine SL.Ok.normBlock ?_
  refine SL.Ok.normThen ?_
  refine hK2 _ _ ?_
  refine SL.Ok.seq fun K5 hK5 => ?_
  refine SL.Ok.region ?_
  refine SL.Ok.op rfl rfl rfl (SL.Pure.move rfl rfl) ?_
  refine SL.Ok.op rfl rfl rfl (SL.Pure.nilCheck rfl rfl) ?_
  refine SL.Ok.op rfl rfl rfl (SL.Pure.fieldAddr (k := 33) rfl rfl (by kernel_rfl) rfl) ?_
  refine SL.Ok.eff rfl (SL.Eff.call [0, 1] [] rfl rfl (by kernel_rfl) rfl rfl rfl rfl (fun w hM hK => bld_string b _ _ (rpre r.id r.size) (rpost r.fin) x.p x.a x.c r.t hok.2 w (hM.sel [0, 1] rfl).own)) ?_
  intro _ _
  try simp only [SL.setN, SL.putD, SL.selM, SL.nth, List.cons_append, List.nil_append]
  refine SL.Ok.op rfl rfl rfl (SL.Pure.assign rfl rfl) ?_
  refine SL.Ok.op rfl rfl rfl (SL.Pure.assign rfl rfl) ?_
  refine SL.Ok.nil ?_
  refine SL.Ok.normThen ?_
  refine hK5 _ _ ?_
  refine SL.Ok.ret SL.retHere (SL.resL rfl (.cons (.tmp rfl) (.cons (.tmp rfl) .nil)) rfl) (fun w' hM' hK' => ?_)
  exact ⟨(), trivial, rfl, hK', hM'⟩

end Go.Proofs.YtehjohfpegbhmaaGreatDoor
