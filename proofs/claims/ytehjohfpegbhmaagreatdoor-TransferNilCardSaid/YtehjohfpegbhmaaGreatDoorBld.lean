/- Contracts of strings.Builder, wherever in a block it lies. -/
import Derived.Test.YtehjohfpegbhmaaGreatDoorProg
import Derived.Test.YtehjohfpegbhmaaGreatDoorSl7
namespace Go.Proofs.YtehjohfpegbhmaaGreatDoor
open Go.SL Go.RowKit
set_option linter.unusedVariables false
set_option maxRecDepth 100000
set_option linter.unusedSimpArgs false
theorem mixed : Tryz.prog.follows .mixedOrders = true := by kernel_rfl
theorem one5 : Tryz.prog.cellsOf 5 = 1 := by kernel_rfl

/-- a Builder among the cells of a block -/
abbrev bsegs (pre : List Seg) (p : Option Addr) (a : Option Addr) (n c : Nat) (post : List Seg) : List Seg := pre ++ Seg.one (.pointer p) rfl :: Seg.one (.slice a n c) rfl :: post

theorem bat0 (pre : List Seg) (p a : Option Addr) (n c : Nat) (post : List Seg) : at1 (bsegs pre p a n c post) (width pre + 0) = some (.pointer p) := by rw [at1_pre]; rfl
theorem bat1 (pre : List Seg) (p a : Option Addr) (n c : Nat) (post : List Seg) : at1 (bsegs pre p a n c post) (width pre + 1) = some (.slice a n c) := by rw [at1_pre]; rfl
theorem bspl0 (pre : List Seg) (hp : pre.all (fun s => Nat.ble 1 s.n) = true) (p q a : Option Addr) (n c : Nat) (post : List Seg) : spl (bsegs pre p a n c post) (width pre + 0) [Seg.one (.pointer q) rfl] 1 = some (bsegs pre q a n c post) := by rw [spl_pre _ _ _ _ _ hp]; rfl
theorem bspl1 (pre : List Seg) (hp : pre.all (fun s => Nat.ble 1 s.n) = true) (p a a' : Option Addr) (n c n' c' : Nat) (post : List Seg) : spl (bsegs pre p a n c post) (width pre + 1) [Seg.one (.slice a' n' c') rfl] 1 = some (bsegs pre p a' n' c' post) := by
  rw [spl_pre _ _ _ _ _ hp]
  have : spl (Seg.one (.pointer p) rfl :: Seg.one (.slice a n c) rfl :: post) 1 [Seg.one (.slice a' n' c') rfl] 1 = match dropS post 0 with | some r => some (Seg.one (.pointer p) rfl :: ([Seg.one (.slice a' n' c') rfl] ++ r)) | none => none := by
    cases h : dropS post 0 with
    | none => rw [dropS_zero] at h; cases h
    | some r => rw [dropS_zero] at h; cases h; simp [spl, dropS, dropS_zero, Seg.n, Nat.ble]
  rw [this, dropS_zero]
  rfl

theorem bld_len (b : Nat) (T : TypeId) (fz : Nat × Nat) (pre post : List Seg) (p a : Option Addr) (n c : Nat) (w : World) (hb : w.heap[b]? = some (.cells (flat (bsegs pre p a n c post)) T fz)) :
    Calls Tryz.prog 22 [.pointer (some ⟨b, width pre, none⟩)].toArray w fun e w' => e = .returned (.int .i64 n) ∧ Keeps none1 w w' := by
  have hm : Mem (blocksOf [.blk b (.cells (flat (bsegs pre p a n c post)) T fz)]) w [.blk b (.cells (flat (bsegs pre p a n c post)) T fz)] w := ⟨by simpa [Res.holds] using hb, fun r hr k hk => .inr ⟨r, hr, hk⟩, by simp⟩
  have hc : w.cell? ⟨b, width pre + 1, none⟩ = some (.slice a n c) := by rw [Lib.cell_of_heap hb, ← at1_eq]; exact bat1 ..
  refine SL.calls_ok (n := 8) (W := SL.none1) (m := []) Tryz.func22 rfl Tryz.ntmps22 rfl (SL.Mem.nil _ _ _) ?_
  simp only [SL.enum, Nat.reduceAdd]
  refine SL.Ok.seq fun K1 hK1 => ?_
  refine SL.Ok.region ?_
  refine SL.Ok.op rfl rfl rfl (SL.Pure.assign rfl rfl) ?_
  refine SL.Ok.nil ?_
  refine SL.Ok.normThen ?_
  refine hK1 _ _ ?_
  refine SL.Ok.seq fun K2 hK2 => ?_
  refine SL.Ok.region ?_
  refine SL.Ok.op rfl rfl rfl (SL.Pure.move rfl rfl) ?_
  refine SL.Ok.op rfl rfl rfl (SL.Pure.nilCheck rfl rfl) ?_
  refine SL.Ok.op rfl rfl rfl (SL.Pure.fieldAddr (k := 1) rfl rfl (by kernel_rfl) rfl) ?_
  refine SL.Ok.op rfl rfl rfl (SL.Pure.loadC rfl rfl (by kernel_rfl) (fun w' _ hK => by have hlt : b < w.heap.size := (Array.getElem?_eq_some_iff.1 hb).1; rw [World.cell?_of_block (w := w) (hK.block b hlt (fun h => h))]; exact hc)) ?_
  refine SL.Ok.op rfl rfl rfl (SL.Pure.lenSl rfl rfl rfl Tryz.underlying50) ?_
  refine SL.Ok.op rfl rfl rfl (SL.Pure.assign rfl rfl) ?_
  refine SL.Ok.nil ?_
  refine SL.Ok.normThen ?_
  refine hK2 _ _ ?_
  refine SL.Ok.ret SL.retHere (SL.resL rfl (.cons (.tmp rfl) .nil) rfl) (fun w' hM' hK' => ?_)
  exact ⟨rfl, hK'⟩

theorem bld_string (b : Nat) (T : TypeId) (fz : Nat × Nat) (pre post : List Seg) (p a : Option Addr) (c : Nat) (s : List UInt8) (hok : okV (.slice a s.length c)) (w : World)
    (hm : Mem (blocksOf [.blk b (.cells (flat (bsegs pre p a s.length c post)) T fz), .row (.slice a s.length c) 5 1 s.length (bytesV s)]) w [.blk b (.cells (flat (bsegs pre p a s.length c post)) T fz), .row (.slice a s.length c) 5 1 s.length (bytesV s)] w) :
    Calls Tryz.prog 19 [.pointer (some ⟨b, width pre, none⟩)].toArray w fun e w' => ∃ _ : Unit, True ∧ e = .returned (str s) ∧
      Post w (blocksOf [.blk b (.cells (flat (bsegs pre p a s.length c post)) T fz), .row (.slice a s.length c) 5 1 s.length (bytesV s)]) [.blk b (.cells (flat (bsegs pre p a s.length c post)) T fz), .row (.slice a s.length c) 5 1 s.length (bytesV s)] w' := by
  refine SL.calls_ok (n := 14) (W := (blocksOf [.blk b (.cells (flat (bsegs pre p a s.length c post)) T fz), .row (.slice a s.length c) 5 1 s.length (bytesV s)])) (m := [.blk b (.cells (flat (bsegs pre p a s.length c post)) T fz), .row (.slice a s.length c) 5 1 s.length (bytesV s)]) Tryz.func19 rfl Tryz.ntmps19 rfl hm ?_
  simp only [SL.enum, Nat.reduceAdd]
  refine SL.Ok.seq fun K1 hK1 => ?_
  refine SL.Ok.region ?_
  refine SL.Ok.op rfl rfl rfl (SL.Pure.assign rfl rfl) ?_
  refine SL.Ok.nil ?_
  refine SL.Ok.normThen ?_
  refine hK1 _ _ ?_
  refine SL.Ok.seq fun K2 hK2 => ?_
  refine SL.Ok.still 10 mixed (by kernel_rfl) rfl rfl (fun wd1 => ?_)
  refine SL.OkS.op rfl rfl rfl (SL.Pure.move rfl rfl) ?_
  refine SL.OkS.op rfl rfl rfl (SL.Pure.nilCheck rfl rfl) ?_
  refine SL.OkS.op rfl rfl rfl (SL.Pure.fieldAddr (k := 1) rfl rfl (by kernel_rfl) rfl) ?_
  refine SL.OkS.op rfl rfl rfl (SL.Pure.load1 0 rfl rfl rfl (bat1 ..) (by kernel_rfl)) ?_
  refine SL.OkS.op rfl rfl rfl (SL.Pure.sliceData rfl rfl hok) ?_
  refine SL.OkS.op rfl rfl rfl (SL.Pure.move rfl rfl) ?_
  refine SL.OkS.op rfl rfl rfl (SL.Pure.nilCheck rfl rfl) ?_
  refine SL.OkS.op rfl rfl rfl (SL.Pure.fieldAddr (k := 1) rfl rfl (by kernel_rfl) rfl) ?_
  refine SL.OkS.op rfl rfl rfl (SL.Pure.load1 0 rfl rfl rfl (bat1 ..) (by kernel_rfl)) ?_
  refine SL.OkS.op rfl rfl rfl (SL.Pure.lenSl rfl rfl rfl Tryz.underlying50) ?_
  refine SL.OkS.tail ?_
  refine SL.Ok.eff rfl (SL.Eff.unsafeString 1 [0] rfl rfl rfl rfl Tryz.underlying84 one5 rfl rfl rfl rfl) ?_
  intro _ _
  try simp only [SL.setN, SL.putD, SL.selM, SL.nth, List.cons_append, List.nil_append]
  refine SL.Ok.op rfl rfl rfl (SL.Pure.assign rfl rfl) ?_
  refine SL.Ok.nil ?_
  refine SL.Ok.normThen ?_
  refine hK2 _ _ ?_
  refine SL.Ok.ret SL.retHere (SL.resL rfl (.cons (.tmp rfl) .nil) rfl) (fun w' hM' hK' => ?_)
  exact ⟨(), trivial, rfl, hK', hM'.sel [1, 0] rfl⟩

theorem bld_check_fresh (b : Nat) (T : TypeId) (pre post : List Seg) (hp : pre.all (fun s => Nat.ble 1 s.n) = true) (a : Option Addr) (n c : Nat) (w : World) (hl : liesAt Tryz.prog Tryz.prog.depth T ((flat (bsegs pre none a n c post)).size / Tryz.prog.cellsOf T) (width pre) 52 1 = true)
    (hm : Mem (blocksOf [.blk b (.cells (flat (bsegs pre none a n c post)) T (0, 0))]) w [.blk b (.cells (flat (bsegs pre none a n c post)) T (0, 0))] w) :
    Calls Tryz.prog 42 [.pointer (some ⟨b, width pre, none⟩)].toArray w fun e w' => ∃ _ : Unit, True ∧ e = .returned (.tuple #[]) ∧
      Post w (blocksOf [.blk b (.cells (flat (bsegs pre none a n c post)) T (0, 0))]) [.blk b (.cells (flat (bsegs pre (some ⟨b, width pre, none⟩) a n c post)) T (0, 0))] w' := by
  refine SL.calls_ok (n := 20) (W := (blocksOf [.blk b (.cells (flat (bsegs pre none a n c post)) T (0, 0))])) (m := [.blk b (.cells (flat (bsegs pre none a n c post)) T (0, 0))]) Tryz.func42 rfl Tryz.ntmps42 rfl hm ?_
  simp only [SL.enum, Nat.reduceAdd]
  refine SL.Ok.seq fun K1 hK1 => ?_
  refine SL.Ok.region ?_
  refine SL.Ok.op rfl rfl rfl (SL.Pure.move rfl rfl) ?_
  refine SL.Ok.op rfl rfl rfl (SL.Pure.nilCheck rfl rfl) ?_
  refine SL.Ok.op rfl rfl rfl (SL.Pure.fieldAddr (k := 0) rfl rfl (by kernel_rfl) rfl) ?_
  refine SL.Ok.op rfl rfl rfl (SL.Pure.load1 0 rfl rfl rfl (bat0 ..) (by kernel_rfl)) ?_
  refine SL.Ok.op rfl rfl rfl (SL.Pure.eqNil rfl rfl rfl Tryz.underlying49) ?_
  refine SL.Ok.nil ?_
  refine SL.Ok.normThen ?_
  refine hK1 _ _ ?_
  refine SL.Ok.condT' rfl (rfl) ?_
  refine SL.Ok.region ?_
  refine SL.Ok.op rfl rfl rfl (SL.Pure.move rfl rfl) ?_
  refine SL.Ok.op rfl rfl rfl (SL.Pure.move rfl rfl) ?_
  refine SL.Ok.op rfl rfl rfl (SL.Pure.toUnsafe (k := 1) 0 rfl rfl Tryz.underlying49 Tryz.underlying150 (by kernel_rfl) rfl (by rw [flat_size]; simp [width_append, width, Seg.n]; omega)) ?_
  refine SL.Ok.op rfl rfl rfl (SL.Pure.noEscape rfl rfl (f := 104) (fn := Tryz.f104) (by kernel_rfl) (by kernel_rfl) (by kernel_rfl) (by kernel_rfl) (by kernel_rfl)) ?_
  refine SL.Ok.op rfl rfl rfl (SL.Pure.fromUnsafe (k := 2) 0 rfl rfl Tryz.underlying150 Tryz.underlying49 (by kernel_rfl) rfl hl) ?_
  refine SL.Ok.op rfl rfl rfl (SL.Pure.nilCheck rfl rfl) ?_
  refine SL.Ok.op rfl rfl rfl (SL.Pure.fieldAddr (k := 0) rfl rfl (by kernel_rfl) rfl) ?_
  refine SL.Ok.eff rfl (SL.Eff.storeG (k := 1) 0 [SL.Seg.one _ rfl] rfl rfl rfl rfl rfl rfl (by kernel_rfl) rfl (bspl0 pre hp ..)) ?_
  intro _ _
  try simp only [SL.setN, SL.putD, SL.selM, SL.nth, List.cons_append, List.nil_append]
  refine SL.Ok.nil ?_
  refine SL.Ok.fin (fun _ _ h => h) (SL.resL rfl .nil rfl) (fun w' hM' hK' => ?_)
  exact ⟨(), trivial, rfl, hK', hM'⟩

theorem bld_check_used (b : Nat) (T : TypeId) (fz : Nat × Nat) (pre post : List Seg) (a : Option Addr) (n c : Nat) (w : World) (hb : w.heap[b]? = some (.cells (flat (bsegs pre (some ⟨b, width pre, none⟩) a n c post)) T fz)) :
    Calls Tryz.prog 42 [.pointer (some ⟨b, width pre, none⟩)].toArray w fun e w' => e = .returned (.tuple #[]) ∧ Keeps none1 w w' := by
  have hc : ∀ w', Keeps none1 w w' → w'.cell? ⟨b, width pre + 0, none⟩ = some (.pointer (some ⟨b, width pre, none⟩)) := fun w' hK => by
    have hlt : b < w.heap.size := (Array.getElem?_eq_some_iff.1 hb).1
    rw [World.cell?_of_block (w := w) (hK.block b hlt (fun h => h)), Lib.cell_of_heap hb, ← at1_eq]; exact bat0 ..
  refine SL.calls_ok (n := 20) (W := SL.none1) (m := []) Tryz.func42 rfl Tryz.ntmps42 rfl (SL.Mem.nil _ _ _) ?_
  simp only [SL.enum, Nat.reduceAdd]
  refine SL.Ok.seq fun K1 hK1 => ?_
  refine SL.Ok.region ?_
  refine SL.Ok.op rfl rfl rfl (SL.Pure.move rfl rfl) ?_
  refine SL.Ok.op rfl rfl rfl (SL.Pure.nilCheck rfl rfl) ?_
  refine SL.Ok.op rfl rfl rfl (SL.Pure.fieldAddr (k := 0) rfl rfl (by kernel_rfl) rfl) ?_
  refine SL.Ok.op rfl rfl rfl (SL.Pure.loadC rfl rfl (by kernel_rfl) (fun w' _ hK => hc w' hK)) ?_
  refine SL.Ok.op rfl rfl rfl (SL.Pure.eqNil rfl rfl rfl Tryz.underlying49) ?_
  refine SL.Ok.nil ?_
  refine SL.Ok.normThen ?_
  refine hK1 _ _ ?_
  refine SL.Ok.condF' rfl (rfl) ?_
  refine SL.Ok.seq fun K2 hK2 => ?_
  refine SL.Ok.region ?_
  refine SL.Ok.op rfl rfl rfl (SL.Pure.move rfl rfl) ?_
  refine SL.Ok.op rfl rfl rfl (SL.Pure.nilCheck rfl rfl) ?_
  refine SL.Ok.op rfl rfl rfl (SL.Pure.fieldAddr (k := 0) rfl rfl (by kernel_rfl) rfl) ?_
  refine SL.Ok.op rfl rfl rfl (SL.Pure.loadC rfl rfl (by kernel_rfl) (fun w' _ hK => hc w' hK)) ?_
  refine SL.Ok.op rfl rfl rfl (SL.Pure.move rfl rfl) ?_
  refine SL.Ok.op rfl rfl rfl (SL.Pure.neSelf rfl rfl rfl Tryz.underlying49 (k := 2) (by kernel_rfl)) ?_
  refine SL.Ok.nil ?_
  refine SL.Ok.normThen ?_
  refine hK2 _ _ ?_
  refine SL.Ok.condF' rfl (rfl) ?_
  refine SL.Ok.skip' ?_
  refine SL.Ok.fin (fun _ _ h => h) (SL.resL rfl .nil rfl) (fun w' hM' hK' => ?_)
  exact ⟨rfl, hK'⟩

/-- what a Builder must be to be written on -/
def bldOk (b : Nat) (pre : List Seg) (p : Option Addr) : Prop := p = none ∨ p = some ⟨b, width pre, none⟩

theorem bld_check (b : Nat) (T : TypeId) (pre post : List Seg) (hp : pre.all (fun s => Nat.ble 1 s.n) = true) (p a : Option Addr) (n c : Nat) (hok : bldOk b pre p) (w : World) (hl : liesAt Tryz.prog Tryz.prog.depth T ((flat (bsegs pre none a n c post)).size / Tryz.prog.cellsOf T) (width pre) 52 1 = true)
    (hm : Mem (blocksOf [.blk b (.cells (flat (bsegs pre p a n c post)) T (0, 0))]) w [.blk b (.cells (flat (bsegs pre p a n c post)) T (0, 0))] w) :
    Calls Tryz.prog 42 [.pointer (some ⟨b, width pre, none⟩)].toArray w fun e w' => ∃ _ : Unit, True ∧ e = .returned (.tuple #[]) ∧
      Post w (blocksOf [.blk b (.cells (flat (bsegs pre p a n c post)) T (0, 0))]) [.blk b (.cells (flat (bsegs pre (some ⟨b, width pre, none⟩) a n c post)) T (0, 0))] w' := by
  rcases hok with rfl | rfl
  · exact bld_check_fresh b T pre post hp a n c w hl hm
  · refine (bld_check_used b T (0, 0) pre post a n c w (hm.blk (i := 0) rfl)).mono fun e w' ⟨he, hk⟩ => ⟨(), trivial, he, hk.weak, ?_⟩
    exact ⟨fun r hr => Res.keeps (hm.holds r hr) hk (fun _ _ h => h), fun r hr k hk' => (hm.may r hr k hk'), hm.apart⟩

theorem bld_write (b : Nat) (T : TypeId) (pre post : List Seg) (hp : pre.all (fun s => Nat.ble 1 s.n) = true) (p a : Option Addr) (n c : Nat) (xs : List Value) (s : List UInt8) (hok : bldOk b pre p) (hv : okV (.slice a n c)) (hlen : n + s.length ≤ 140737488355328) (w : World)
    (hl : liesAt Tryz.prog Tryz.prog.depth T ((flat (bsegs pre none a n c post)).size / Tryz.prog.cellsOf T) (width pre) 52 1 = true)
    (hm : Mem (blocksOf [.blk b (.cells (flat (bsegs pre p a n c post)) T (0, 0)), .row (.slice a n c) 5 1 n xs]) w [.blk b (.cells (flat (bsegs pre p a n c post)) T (0, 0)), .row (.slice a n c) 5 1 n xs] w) :
    Calls Tryz.prog 27 [.pointer (some ⟨b, width pre, none⟩), str s].toArray w fun e w' => ∃ x : Option Addr × Nat, okV (.slice x.1 (n + s.length) x.2) ∧ e = .returned (.tuple #[.int .i64 s.length, .nilIface]) ∧
      Post w (blocksOf [.blk b (.cells (flat (bsegs pre p a n c post)) T (0, 0)), .row (.slice a n c) 5 1 n xs]) [.blk b (.cells (flat (bsegs pre (some ⟨b, width pre, none⟩) x.1 (n + s.length) x.2 post)) T (0, 0)), .row (.slice x.1 (n + s.length) x.2) 5 1 (n + s.length) (xs ++ bytesV s)] w' := by
  refine SL.calls_ok (n := 19) (W := (blocksOf [.blk b (.cells (flat (bsegs pre p a n c post)) T (0, 0)), .row (.slice a n c) 5 1 n xs])) (m := [.blk b (.cells (flat (bsegs pre p a n c post)) T (0, 0)), .row (.slice a n c) 5 1 n xs]) Tryz.func27 rfl Tryz.ntmps27 rfl hm ?_
  simp only [SL.enum, Nat.reduceAdd]
  refine SL.Ok.seq fun K1 hK1 => ?_
  refine SL.Ok.region ?_
  refine SL.Ok.op rfl rfl rfl (SL.Pure.assign rfl rfl) ?_
  refine SL.Ok.op rfl rfl rfl (SL.Pure.assign rfl rfl) ?_
  refine SL.Ok.nil ?_
  refine SL.Ok.normThen ?_
  refine hK1 _ _ ?_
  refine SL.Ok.seq fun K2 hK2 => ?_
  refine SL.Ok.region ?_
  refine SL.Ok.op rfl rfl rfl (SL.Pure.move rfl rfl) ?_
  refine SL.Ok.eff rfl (SL.Eff.call [0] [1] rfl rfl (by kernel_rfl) rfl rfl rfl rfl (fun w hM hK => bld_check b T pre post hp p a n c hok w hl (hM.sel [0] rfl).own)) ?_
  intro _ _
  try simp only [SL.setN, SL.putD, SL.selM, SL.nth, List.cons_append, List.nil_append]
  refine SL.Ok.nil ?_
  refine SL.Ok.normThen ?_
  refine hK2 _ _ ?_
  refine SL.Ok.seq fun K3 hK3 => ?_
  refine SL.Ok.region ?_
  refine SL.Ok.op rfl rfl rfl (SL.Pure.move rfl rfl) ?_
  refine SL.Ok.op rfl rfl rfl (SL.Pure.move rfl rfl) ?_
  refine SL.Ok.op rfl rfl rfl (SL.Pure.nilCheck rfl rfl) ?_
  refine SL.Ok.op rfl rfl rfl (SL.Pure.fieldAddr (k := 1) rfl rfl (by kernel_rfl) rfl) ?_
  refine SL.Ok.op rfl rfl rfl (SL.Pure.load1 0 rfl rfl rfl (bat1 ..) (by kernel_rfl)) ?_
  refine SL.Ok.op rfl rfl rfl (SL.Pure.move rfl rfl) ?_
  refine SL.Ok.eff rfl (SL.Eff.appendS 1 [0] rfl rfl rfl rfl Tryz.underlying50 Tryz.underlying9 (by kernel_rfl) rfl rfl rfl rfl hlen) ?_
  intro v' hv'
  try simp only [SL.setN, SL.putD, SL.selM, SL.nth, List.cons_append, List.nil_append]
  refine SL.Ok.rowShape 0 rfl fun hsh _ _ => ?_
  obtain ⟨a', c', hvv⟩ := hsh
  subst hvv
  refine SL.Ok.op rfl rfl rfl (SL.Pure.nilCheck rfl rfl) ?_
  refine SL.Ok.op rfl rfl rfl (SL.Pure.fieldAddr (k := 1) rfl rfl (by kernel_rfl) rfl) ?_
  refine SL.Ok.eff rfl (SL.Eff.storeG (k := 1) 1 [SL.Seg.one _ rfl] rfl rfl rfl rfl rfl rfl (by kernel_rfl) rfl (bspl1 pre hp ..)) ?_
  intro _ _
  try simp only [SL.setN, SL.putD, SL.selM, SL.nth, List.cons_append, List.nil_append]
  refine SL.Ok.nil ?_
  refine SL.Ok.normThen ?_
  refine hK3 _ _ ?_
  refine SL.Ok.seq fun K4 hK4 => ?_
  refine SL.Ok.region ?_
  refine SL.Ok.op rfl rfl rfl (SL.Pure.move rfl rfl) ?_
  refine SL.Ok.op rfl rfl rfl (SL.Pure.lenS rfl rfl rfl Tryz.underlying9) ?_
  refine SL.Ok.op rfl rfl rfl (SL.Pure.assign rfl rfl) ?_
  refine SL.Ok.op rfl rfl rfl (SL.Pure.assign rfl rfl) ?_
  refine SL.Ok.nil ?_
  refine SL.Ok.normThen ?_
  refine hK4 _ _ ?_
  refine SL.Ok.ret SL.retHere (SL.resL rfl (.cons (.tmp rfl) (.cons (.tmp rfl) .nil)) rfl) (fun w' hM' hK' => ?_)
  exact ⟨(a', c'), hv'.2 hv, rfl, hK', hM'.sel [1, 0] rfl⟩

end Go.Proofs.YtehjohfpegbhmaaGreatDoor
