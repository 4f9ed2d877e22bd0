/- Contracts of strings.Builder, wherever in a block it lies. Hexadecimal, message identifiers, authors: the program's. The program's lists of ancestors. The program's base64. The program's base64: encoding; public keys. The program's public keys; the key of a content; the first error. The first error; the lines of a content. Bodies: their lines. -/
import Derived.Test.YthfhhkanpnemcaaGreatDoorM3
import Derived.Test.YthfhhkanpnemcaaGreatDoorM2
import Derived.Test.YthfhhkanpnemcaaGreatDoorM5
import Derived.Test.YthfhhkanpnemcaaGreatDoorM7
namespace Go.Proofs.YthfhhkanpnemcaaGreatDoor
open Go.SL Go.RowKit
set_option linter.unusedVariables false
set_option maxRecDepth 100000
set_option linter.unusedSimpArgs false
theorem one5 : Tryz.prog.cellsOf 5 = 1 := by kernel_rfl

/-- a Builder among the cells of a block -/
abbrev bsegs (pre : List Seg) (p : Option Addr) (a : Option Addr) (n c : Nat) (post : List Seg) : List Seg := pre ++ Seg.one (.pointer p) rfl :: Seg.one (.slice a n c) rfl :: post

theorem bat0 (pre : List Seg) (p a : Option Addr) (n c : Nat) (post : List Seg) : at1 (bsegs pre p a n c post) (width pre + 0) = some (.pointer p) := by rw [at1_pre]; rfl
theorem bat1 (pre : List Seg) (p a : Option Addr) (n c : Nat) (post : List Seg) : at1 (bsegs pre p a n c post) (width pre + 1) = some (.slice a n c) := by rw [at1_pre]; rfl
theorem bspl0 (pre : List Seg) (hp : pre.all (fun s => Nat.ble 1 s.n) = true) (p q a : Option Addr) (n c : Nat) (post : List Seg) : spl (bsegs pre p a n c post) (width pre + 0) [Seg.one (.pointer q) rfl] 1 = some (bsegs pre q a n c post) := by rw [spl_pre _ _ _ _ _ hp]; rfl
theorem bspl1 (pre : List Seg) (hp : pre.all (fun s => Nat.ble 1 s.n) = true) (p a a' : Option Addr) (n c n' c' : Nat) (post : List Seg) : spl (bsegs pre p a n c post) (width pre + 1) [Seg.one (.slice a' n' c') rfl] 1 = some (bsegs pre p a' n' c' post) := by
 rw [spl_pre _ _ _ _ _ hp]
 have : spl (Seg.one (.pointer p) rfl :: Seg.one (.slice a n c) rfl :: post) 1 [Seg.one (.slice a' n' c') rfl] 1 = match dropS post 0 with | some r => some (Seg.one (.pointer p) rfl :: ([Seg.one (.slice a' n' c') rfl] ++ r)) | none => none := by
  cases h : dropS post 0 with
  | none => rw [dropS_zero] at h; cases h
  | some r => rw [dropS_zero] at h; cases h; simp [spl, dropS, dropS_zero, Seg.n, Nat.ble]
 rw [this, dropS_zero]
 rfl

theorem bld_len (b : Nat) (T : TypeId) (fz : Nat × Nat) (pre post : List Seg) (p a : Option Addr) (n c : Nat) (w : World) (hb : w.heap[b]? = some (.cells (flat (bsegs pre p a n c post)) T fz)) :
  Calls Tryz.prog 158 [.pointer (some ⟨b, width pre, none⟩)].toArray w fun e w' => e = .returned (.int .i64 n) ∧ Keeps none1 w w' := by
 have hm : Mem (blocksOf [.blk b (.cells (flat (bsegs pre p a n c post)) T fz)]) w [.blk b (.cells (flat (bsegs pre p a n c post)) T fz)] w := ⟨by simpa [Res.holds] using hb, fun r hr k hk => .inr ⟨r, hr, hk⟩, by simp⟩
 have hc : w.cell? ⟨b, width pre + 1, none⟩ = some (.slice a n c) := by rw [Lib.cell_of_heap hb, ← at1_eq]; exact bat1 ..
 refine aJ (n := 8) (W := SL.none1) (m := []) Tryz.func158 O Tryz.ntmps158 O (aO _ _ _) ?_
 simp only [SL.enum, Nat.reduceAdd]
 refine ah fun K1 hK1 => aj (aa O O O (ak O O) ?_)
 refine ai (ae ?_)
 refine hK1 _ _ (ah fun K2 hK2 => ?_)
 refine aj (aa O O O (af O O) ?_)
 refine aa O O O (aZ O O) (aa O O O (au (k := 1) O O (by kernel_rfl) O) ?_)
 refine aa O O O (SL.Pure.loadC O O (by kernel_rfl) (fun w' _ hK => by have hlt : b < w.heap.size := (Array.getElem?_eq_some_iff.1 hb).1; rw [World.cell?_of_block (w := w) (hK.block b hlt (fun h => h))]; exact hc)) ?_
 refine aa O O O (bw O O O Tryz.underlying52) (aa O O O (ak O O) ?_)
 refine ai (ae ?_)
 refine hK2 _ _ (aw av (ar O (.cons (.tmp O) .nil) O) (fun w' hM' hK' => ?_))
 exact ⟨rfl, hK'⟩

theorem bld_string (b : Nat) (T : TypeId) (fz : Nat × Nat) (pre post : List Seg) (p a : Option Addr) (c : Nat) (s : List UInt8) (hok : okV (.slice a s.length c)) (w : World)
  (hm : Mem (blocksOf [.blk b (.cells (flat (bsegs pre p a s.length c post)) T fz), .row (.slice a s.length c) 5 1 s.length (bytesV s)]) w [.blk b (.cells (flat (bsegs pre p a s.length c post)) T fz), .row (.slice a s.length c) 5 1 s.length (bytesV s)] w) :
  Calls Tryz.prog 52 [.pointer (some ⟨b, width pre, none⟩)].toArray w fun e w' => ∃ _ : Unit, True ∧ e = .returned (str s) ∧
   Post w (blocksOf [.blk b (.cells (flat (bsegs pre p a s.length c post)) T fz), .row (.slice a s.length c) 5 1 s.length (bytesV s)]) [.blk b (.cells (flat (bsegs pre p a s.length c post)) T fz), .row (.slice a s.length c) 5 1 s.length (bytesV s)] w' := by
 refine aJ (n := 14) (W := (blocksOf [.blk b (.cells (flat (bsegs pre p a s.length c post)) T fz), .row (.slice a s.length c) 5 1 s.length (bytesV s)])) (m := [.blk b (.cells (flat (bsegs pre p a s.length c post)) T fz), .row (.slice a s.length c) 5 1 s.length (bytesV s)]) Tryz.func52 O Tryz.ntmps52 O hm ?_
 simp only [SL.enum, Nat.reduceAdd]
 refine ah fun K1 hK1 => aj (aa O O O (ak O O) ?_)
 refine ai (ae ?_)
 refine hK1 _ _ (ah fun K2 hK2 => ?_)
 refine bX 10 mixed (by kernel_rfl) O O (fun wd1 => ?_)
 refine aD O O O (af O O) (aD O O O (aZ O O) ?_)
 refine aD O O O (au (k := 1) O O (by kernel_rfl) O) ?_
 refine aD O O O (al 0 O O O (bat1 ..) (by kernel_rfl)) ?_
 refine aD O O O (SL.Pure.sliceData O O hok) (aD O O O (af O O) ?_)
 refine aD O O O (aZ O O) (aD O O O (au (k := 1) O O (by kernel_rfl) O) ?_)
 refine aD O O O (al 0 O O O (bat1 ..) (by kernel_rfl)) ?_
 refine aD O O O (bw O O O Tryz.underlying52) (bV ?_)
 refine am O (SL.Eff.unsafeString 1 [0] O O O O Tryz.underlying129 one5 O O O O) ?_
 intro _ _
 try simp only [setN, putD, selM, nth, cw, cx]
 refine aa O O O (ak O O) (ai ?_)
 refine ae (hK2 _ _ ?_)
 refine aw av (ar O (.cons (.tmp O) .nil) O) (fun w' hM' hK' => ?_)
 exact ⟨(), trivial, rfl, hK', hM'.sel [1, 0] rfl⟩

theorem bld_check_fresh (b : Nat) (T : TypeId) (pre post : List Seg) (hp : pre.all (fun s => Nat.ble 1 s.n) = true) (a : Option Addr) (n c : Nat) (w : World) (hl : liesAt Tryz.prog Tryz.prog.depth T ((flat (bsegs pre none a n c post)).size / Tryz.prog.cellsOf T) (width pre) 94 1 = true)
  (hm : Mem (blocksOf [.blk b (.cells (flat (bsegs pre none a n c post)) T (0, 0))]) w [.blk b (.cells (flat (bsegs pre none a n c post)) T (0, 0))] w) :
  Calls Tryz.prog 74 [.pointer (some ⟨b, width pre, none⟩)].toArray w fun e w' => ∃ _ : Unit, True ∧ e = .returned (.tuple #[]) ∧
   Post w (blocksOf [.blk b (.cells (flat (bsegs pre none a n c post)) T (0, 0))]) [.blk b (.cells (flat (bsegs pre (some ⟨b, width pre, none⟩) a n c post)) T (0, 0))] w' := by
 refine aJ (n := 20) (W := (blocksOf [.blk b (.cells (flat (bsegs pre none a n c post)) T (0, 0))])) (m := [.blk b (.cells (flat (bsegs pre none a n c post)) T (0, 0))]) Tryz.func74 O Tryz.ntmps74 O hm ?_
 simp only [SL.enum, Nat.reduceAdd]
 refine ah fun K1 hK1 => aj (aa O O O (af O O) ?_)
 refine aa O O O (aZ O O) (aa O O O (au (k := 0) O O (by kernel_rfl) O) ?_)
 refine aa O O O (al 0 O O O (bat0 ..) (by kernel_rfl)) ?_
 refine aa O O O (SL.Pure.eqNil O O O Tryz.underlying92) (ai ?_)
 refine ae (hK1 _ _ ?_)
 refine SL.Ok.condT' O (O) (aj ?_)
 refine aa O O O (af O O) (aa O O O (af O O) ?_)
 refine aa O O O (SL.Pure.toUnsafe (k := 1) 0 O O Tryz.underlying92 Tryz.underlying149 (by kernel_rfl) O (by rw [flat_size]; simp [width_append, width, Seg.n]; omega)) ?_
 refine aa O O O (SL.Pure.noEscape O O (f := 95) (fn := Tryz.f95) (by kernel_rfl) (by kernel_rfl) (by kernel_rfl) (by kernel_rfl) (by kernel_rfl)) ?_
 refine aa O O O (SL.Pure.fromUnsafe (k := 2) 0 O O Tryz.underlying149 Tryz.underlying92 (by kernel_rfl) O hl) ?_
 refine aa O O O (aZ O O) (aa O O O (au (k := 0) O O (by kernel_rfl) O) ?_)
 refine am O (ap (k := 1) 0 [SL.Seg.one _ rfl] O O O O O O (by kernel_rfl) O (bspl0 pre hp ..)) ?_
 intro _ _
 try simp only [setN, putD, selM, nth, cw, cx]
 refine ai (ci (fun _ _ h => h) (ar O .nil O) (fun w' hM' hK' => ?_))
 exact ⟨(), trivial, rfl, hK', hM'⟩

theorem bld_check_used (b : Nat) (T : TypeId) (fz : Nat × Nat) (pre post : List Seg) (a : Option Addr) (n c : Nat) (w : World) (hb : w.heap[b]? = some (.cells (flat (bsegs pre (some ⟨b, width pre, none⟩) a n c post)) T fz)) :
  Calls Tryz.prog 74 [.pointer (some ⟨b, width pre, none⟩)].toArray w fun e w' => e = .returned (.tuple #[]) ∧ Keeps none1 w w' := by
 have hc : ∀ w', Keeps none1 w w' → w'.cell? ⟨b, width pre + 0, none⟩ = some (.pointer (some ⟨b, width pre, none⟩)) := fun w' hK => by
  have hlt : b < w.heap.size := (Array.getElem?_eq_some_iff.1 hb).1
  rw [World.cell?_of_block (w := w) (hK.block b hlt (fun h => h)), Lib.cell_of_heap hb, ← at1_eq]; exact bat0 ..
 refine aJ (n := 20) (W := SL.none1) (m := []) Tryz.func74 O Tryz.ntmps74 O (aO _ _ _) ?_
 simp only [SL.enum, Nat.reduceAdd]
 refine ah fun K1 hK1 => aj (aa O O O (af O O) ?_)
 refine aa O O O (aZ O O) (aa O O O (au (k := 0) O O (by kernel_rfl) O) ?_)
 refine aa O O O (SL.Pure.loadC O O (by kernel_rfl) (fun w' _ hK => hc w' hK)) ?_
 refine aa O O O (SL.Pure.eqNil O O O Tryz.underlying92) (ai ?_)
 refine ae (hK1 _ _ ?_)
 refine cf O (O) (ah fun K2 hK2 => ?_)
 refine aj (aa O O O (af O O) ?_)
 refine aa O O O (aZ O O) (aa O O O (au (k := 0) O O (by kernel_rfl) O) ?_)
 refine aa O O O (SL.Pure.loadC O O (by kernel_rfl) (fun w' _ hK => hc w' hK)) ?_
 refine aa O O O (af O O) (aa O O O (SL.Pure.neSelf O O O Tryz.underlying92 (k := 2) (by kernel_rfl)) ?_)
 refine ai (ae ?_)
 refine hK2 _ _ (cf O (O) ?_)
 refine aC (ci (fun _ _ h => h) (ar O .nil O) (fun w' hM' hK' => ?_))
 exact ⟨rfl, hK'⟩

/-- what a Builder must be to be written on -/
def bldOk (b : Nat) (pre : List Seg) (p : Option Addr) : Prop := p = none ∨ p = some ⟨b, width pre, none⟩

theorem bld_check (b : Nat) (T : TypeId) (pre post : List Seg) (hp : pre.all (fun s => Nat.ble 1 s.n) = true) (p a : Option Addr) (n c : Nat) (hok : bldOk b pre p) (w : World) (hl : liesAt Tryz.prog Tryz.prog.depth T ((flat (bsegs pre none a n c post)).size / Tryz.prog.cellsOf T) (width pre) 94 1 = true)
  (hm : Mem (blocksOf [.blk b (.cells (flat (bsegs pre p a n c post)) T (0, 0))]) w [.blk b (.cells (flat (bsegs pre p a n c post)) T (0, 0))] w) :
  Calls Tryz.prog 74 [.pointer (some ⟨b, width pre, none⟩)].toArray w fun e w' => ∃ _ : Unit, True ∧ e = .returned (.tuple #[]) ∧
   Post w (blocksOf [.blk b (.cells (flat (bsegs pre p a n c post)) T (0, 0))]) [.blk b (.cells (flat (bsegs pre (some ⟨b, width pre, none⟩) a n c post)) T (0, 0))] w' := by
 rcases hok with rfl | rfl
 ·
  exact bld_check_fresh b T pre post hp a n c w hl hm
 ·
  refine (bld_check_used b T (0, 0) pre post a n c w (hm.blk (i := 0) O)).mono fun e w' ⟨he, hk⟩ => ⟨(), trivial, he, hk.weak, ?_⟩
  exact ⟨fun r hr => Res.keeps (hm.holds r hr) hk (fun _ _ h => h), fun r hr k hk' => (hm.may r hr k hk'), hm.apart⟩

theorem bld_wbyte (b : Nat) (T : TypeId) (pre post : List Seg) (hp : pre.all (fun s => Nat.ble 1 s.n) = true) (p a : Option Addr) (n c : Nat) (xs : List UInt8) (u : UInt8) (hok : bldOk b pre p) (hv : okV (.slice a n c)) (hlen : n + 1 ≤ 140737488355328) (w : World)
  (hl : liesAt Tryz.prog Tryz.prog.depth T ((flat (bsegs pre none a n c post)).size / Tryz.prog.cellsOf T) (width pre) 94 1 = true)
  (hm : Mem (blocksOf [.blk b (.cells (flat (bsegs pre p a n c post)) T (0, 0)), .row (.slice a n c) 5 1 n (bytesV xs)]) w [.blk b (.cells (flat (bsegs pre p a n c post)) T (0, 0)), .row (.slice a n c) 5 1 n (bytesV xs)] w) :
  Calls Tryz.prog 150 [.pointer (some ⟨b, width pre, none⟩), .int .u8 u.toNat].toArray w fun e w' => ∃ x : Option Addr × Nat, okV (.slice x.1 (n + 1) x.2) ∧ e = .returned .nilIface ∧
   Post w (blocksOf [.blk b (.cells (flat (bsegs pre p a n c post)) T (0, 0)), .row (.slice a n c) 5 1 n (bytesV xs)]) [.blk b (.cells (flat (bsegs pre (some ⟨b, width pre, none⟩) x.1 (n + 1) x.2 post)) T (0, 0)), .row (.slice x.1 (n + 1) x.2) 5 1 (n + 1) (bytesV (xs ++ [u]))] w' := by
 refine aJ (n := 17) (W := (blocksOf [.blk b (.cells (flat (bsegs pre p a n c post)) T (0, 0)), .row (.slice a n c) 5 1 n (bytesV xs)])) (m := [.blk b (.cells (flat (bsegs pre p a n c post)) T (0, 0)), .row (.slice a n c) 5 1 n (bytesV xs)]) Tryz.func150 O Tryz.ntmps150 O hm ?_
 simp only [SL.enum, Nat.reduceAdd]
 refine ah fun K1 hK1 => aj (aa O O O (ak O O) ?_)
 refine ai (ae ?_)
 refine hK1 _ _ (ah fun K2 hK2 => ?_)
 refine aj (aa O O O (af O O) ?_)
 refine am O (aM [0] [1] O O (by kernel_rfl) O O O O (fun w hM hK => bld_check b T pre post hp p a n c hok w hl (hM.sel [0] O).own)) ?_
 intro _ _
 try simp only [setN, putD, selM, nth, cw, cx]
 refine ai (ae ?_)
 refine hK2 _ _ (ah fun K3 hK3 => ?_)
 refine aj (aa O O O (af O O) ?_)
 refine aa O O O (af O O) (aa O O O (aZ O O) ?_)
 refine aa O O O (au (k := 1) O O (by kernel_rfl) O) ?_
 refine aa O O O (al 0 O O O (bat1 ..) (by kernel_rfl)) ?_
 refine aa O O O (af O O) (am O (by exact bW #[.int .u8 0] [.int .u8 u.toNat] O O Tryz.underlying52 (by kernel_rfl) (by kernel_rfl) O (by decide) O O) ?_)
 intro g13 _
 try simp only [setN, putD, selM, nth, cw, cx]
 refine am O (by exact bF (by' := 1) 2 [1] O O O O Tryz.underlying52 Tryz.underlying52 (by kernel_rfl) (fun w' hM _ => bK (i := 0) O hM) (SL.bytesV_one [u]) O O O O (by omega) (by omega)) ?_
 intro v' hv'
 try simp only [setN, putD, selM, nth, cw, cx]
 have hpx : bytesV xs ++ bytesV [u] = bytesV (xs ++ [u]) := by rw [← bytesV_append]
 simp only [hpx]
 refine SL.Ok.rowShape 0 O fun hsh _ _ => ?_
 obtain ⟨a', c', hvv⟩ := hsh
 subst hvv
 refine aa O O O (aZ O O) (aa O O O (au (k := 1) O O (by kernel_rfl) O) ?_)
 refine am O (ap (k := 1) 1 [SL.Seg.one _ rfl] O O O O O O (by kernel_rfl) O (bspl1 pre hp ..)) ?_
 intro _ _
 try simp only [setN, putD, selM, nth, cw, cx]
 refine ai (ae ?_)
 refine hK3 _ _ (ah fun K4 hK4 => ?_)
 refine aj (aa O O O (ak O O) ?_)
 refine ai (ae ?_)
 refine hK4 _ _ (aw av (ar O (.cons (.tmp O) .nil) O) (fun w' hM' hK' => ?_))
 exact ⟨(a', c'), hv'.2 hv, rfl, hK', hM'.sel [1, 0] rfl⟩

end Go.Proofs.YthfhhkanpnemcaaGreatDoor
namespace Go.Proofs.YthfhhkanpnemcaaGreatDoor
open Go.SL Go.RowKit IntWalk
set_option linter.unusedVariables false
set_option maxRecDepth 100000
set_option linter.unusedSimpArgs false
set_option maxHeartbeats 400000

abbrev TBld : TypeId := 94
theorem blies (a : Option Addr) (n c : Nat) : liesAt Tryz.prog Tryz.prog.depth TBld ((flat (bsegs [] none a n c [])).size / Tryz.prog.cellsOf TBld) (width []) TBld 1 = true := by
 have : (flat (bsegs [] none a n c [])).size = 2 := by rw [flat_size]; rfl
 rw [this]; rfl
theorem hx16 : ∀ q, q < 16 → HX[q]? = some (hexd q) := by decide
theorem shr4 (u : UInt8) : (Int.fdiv (u.toNat : Int) (2 ^ (min (Int.toNat 4) IntKind.u8.bits))) = ((u.toNat / 16 : Nat) : Int) := by
 have e3 : (2 : Int) ^ (min (Int.toNat 4) IntKind.u8.bits) = 16 := by simp [IntKind.bits]
 rw [e3, Int.fdiv_eq_ediv_of_nonneg _ (by decide)]
 rfl
theorem and15 (u : UInt8) : (u &&& 15).toNat = u.toNat % 16 := by
 rw [UInt8.toNat_and]
 exact Nat.and_two_pow_sub_one_eq_mod _ 4

theorem and15w (u : UInt8) : IntKind.u8.wrap ((BitVec.ofInt IntKind.u8.bits (u.toNat : Int) &&& BitVec.ofInt IntKind.u8.bits 15).toNat : Int) = ((u.toNat % 16 : Nat) : Int) := by
 have h : IntKind.u8.wrap ((BitVec.ofInt 8 (u.toNat : Int) &&& BitVec.ofInt 8 (((15 : UInt8).toNat : Nat) : Int)).toNat : Int) = ((u &&& 15).toNat : Int) := by rw [u8_ofInt, u8_ofInt]; exact u8_wrap (u &&& 15)
 rw [and15] at h
 exact h

theorem hex_c (a : Option Addr) (cap : Nat) (v : List UInt8) (hv : v.length ≤ 1000) (w : World) (hR : RC 1 w a v.length (bytesV v)) :
  Calls Tryz.prog 128 [.slice a v.length cap].toArray w fun e w' => e = .returned (str (hexs v)) ∧ Keeps none1 w w' := by
 refine aJ (n := 22) (W := SL.none1) (m := []) Tryz.func128 O Tryz.ntmps128 O (aO _ _ _) ?_
 simp only [SL.enum, Nat.reduceAdd]
 refine ah fun K1 hK1 => aj (aa O O O (ak O O) ?_)
 refine ai (ae ?_)
 refine hK1 _ _ (ah fun K2 hK2 => ?_)
 refine aj (am O (aX [Seg.one (.pointer none) rfl, Seg.one (.slice none 0 0) rfl] O O O (by kernel_rfl)) ?_)
 intro b3 _
 try simp only [setN, putD, selM, nth, cw, cx]
 refine ai (SL.Ok.nilRow 5 1 ?_)
 refine ae (hK2 _ _ ?_)
 refine ah fun K3 hK3 => ah fun K4 hK4 => aj (aa O O O (af O O) ?_)
 refine aa O O O (bw O O O Tryz.underlying52) (aa O O O (af O O) ?_)
 refine ai (ae ?_)
 refine hK4 _ _ (aK ?_)
 refine bu (X := (Nat × Option Addr × Option Addr × Nat)) (φ := fun X => X.1 ≤ v.length ∧ bldOk b3 [] X.2.1 ∧ okV (.slice X.2.2.1 (2 * X.1) X.2.2.2)) (L := fun X => [(3, .pointer (some ⟨b3, 0, none⟩)), (6, .slice a v.length cap), (7, .int .i64 v.length), (8, .int .i64 X.1)]) (M := fun X => [.row (.slice X.2.2.1 (2 * X.1) X.2.2.2) 5 1 (2 * X.1) (bytesV (hexs (v.take X.1))), .blk b3 (.cells (flat (bsegs [] X.2.1 X.2.2.1 (2 * X.1) X.2.2.2 [])) TBld (0, 0))]) (μ := fun X => v.length - X.1) ?_ ?_
 ·
  exact fun _ _ st => ⟨(0, none, none, 0), ⟨Nat.zero_le _, .inl rfl, trivial⟩, st.to [0, 1] ⟨rfl, rfl, rfl, rfl, trivial⟩ O rfl⟩
 ·
  intro ⟨i, p, ga, gc⟩ ⟨hi, hbo, hok⟩
  try dsimp only
  dsimp only at hi hbo hok
  refine ah fun K5 hK5 => aj (aa O O O (aT O O O) ?_)
  refine ai (ae ?_)
  refine hK5 _ _ (ah fun K6 hK6 => ?_)
  refine aH O (fun hc9 => ?_) (fun hc9 => ?_)
  ·
   have hlt : i < v.length := by simp at hc9; omega
   rcases hR.2.2 with h0 | ⟨rb, roff, rfl, hrb, hrc⟩
   ·
    omega
   have hcell := hrc i (.int .u8 (v.getD i 0).toNat) (by simp [bytesV, List.getElem?_eq_getElem hlt, List.getD])
   have hq := (v.getD i 0).toNat_lt
   refine aC (ae ?_)
   refine hK6 _ _ (ah fun K7 hK7 => ?_)
   refine aK (ah fun K8 hK8 => ?_)
   refine aj (aa O O O (bx (sz := 1) (k := v.length) (off' := roff + i) O O O Tryz.underlying52 (by kernel_rfl) (by omega) (by omega) (by omega)) ?_)
   refine aa O O O (cj hrb (fun h => h) hcell O O (by kernel_rfl)) ?_
   refine aa O O O (ak O O) (ai ?_)
   refine ae (hK8 _ _ ?_)
   refine ah fun K9 hK9 => aj (aa O O O (af O O) ?_)
   refine aa O O O (cu O O O (by decide) (shr4 _)) ?_
   refine aa O O O (SL.Pure.indexSK O (show _ = some (str HX) from O) O Tryz.underlying9 (by omega) (hx16 _ (by omega))) ?_
   refine am O (aM [1, 0] [] O O (by kernel_rfl) O O O O (fun w hM hK => bld_wbyte b3 _ [] [] O p ga (2 * i) gc (hexs (v.take i)) (hexd ((v.getD i 0).toNat / 16)) hbo hok (by omega) w (blies _ _ _) (hM.sel [1, 0] O).own)) ?_
   intro ⟨a', c'⟩ hv'
   try simp only [setN, putD, selM, nth, cw, cx]
   refine ai (ae ?_)
   refine hK9 _ _ (aj ?_)
   refine aa O O O (af O O) (aa O O O (cr (r := (((v.getD i 0).toNat % 16 : Nat) : Int)) O O O (and15w _)) ?_)
   refine aa O O O (SL.Pure.indexSK O (show _ = some (str HX) from O) O Tryz.underlying9 (by omega) (hx16 _ (by omega))) ?_
   refine am O (aM [0, 1] [] O O (by kernel_rfl) O O O O (fun w hM hK => bld_wbyte b3 TBld [] [] O (some ⟨b3, 0, none⟩) a' (2 * i + 1) c' (hexs (v.take i) ++ [hexd ((v.getD i 0).toNat / 16)]) (hexd ((v.getD i 0).toNat % 16)) (.inr O) hv' (by omega) w (blies _ _ _) (hM.sel [0, 1] O).own)) ?_
   intro ⟨a'', c''⟩ hv''
   try simp only [setN, putD, selM, nth, cw, cx]
   refine ai ?_
   rw [List.append_assoc, ← hexs_step v i hlt]
   refine aQ (ae ?_)
   refine hK7 _ _ (aj ?_)
   refine aa O O O (aL O O O O (by omega) (by omega)) ?_
   refine aa O O O (af O O) (ai ?_)
   refine ae ?_
   exact bd (i + 1, _, a'', c'') [1, 0] ⟨hlt, .inr rfl, hv''⟩ (show v.length - (i + 1) < v.length - i by omega) ⟨rfl, rfl, rfl, rfl, trivial⟩ O rfl
  ·
   have hie : i = v.length := by simp at hc9; omega
   subst hie
   simp only [List.take_length, ← hexs_len v] at hok ⊢
   refine aU (aI ?_)
   refine aI (aV ?_)
   refine ae (hK3 _ _ ?_)
   refine ah fun K10 hK10 => aj (am O (aM [1, 0] [] O O (by kernel_rfl) O O O O (fun w hM hK => bld_string b3 _ _ [] [] p ga gc (hexs v) hok w (hM.sel [1, 0] O).own)) ?_)
   intro _ _
   try simp only [setN, putD, selM, nth, cw, cx]
   refine aa O O O (ak O O) (ai ?_)
   refine ae (hK10 _ _ ?_)
   refine aw av (ar O (.cons (.tmp O) .nil) O) (fun w' hM' hK' => ?_)
   exact ⟨rfl, hK'⟩

theorem hexK_c (a : Option Addr) (k cap : Nat) (v : List UInt8) (hk : v.length = k) (hv : k ≤ 1000) (w : World) (hR : RC 1 w a k (bytesV v)) :
  Calls Tryz.prog 128 [.slice a k cap].toArray w fun e w' => e = .returned (str (hexs v)) ∧ Keeps none1 w w' := by
 subst hk; exact hex_c a cap v hv w hR

theorem digits_c (id : B 32) (w : World) : Calls Tryz.prog 97 [.agg (flat [id.seg])].toArray w fun e w' => e = .returned (str (hexs id.l)) ∧ Keeps none1 w w' := by
 refine aJ (n := 5) (W := SL.none1) (m := []) Tryz.func97 O Tryz.ntmps97 O (aO _ _ _) ?_
 simp only [SL.enum, Nat.reduceAdd]
 refine ah fun K1 hK1 => aj (am O (bh _ O O O O O) ?_)
 intro b1 _
 try simp only [setN, putD, selM, nth, cw, cx]
 refine aa O O O (ak O O) (ai ?_)
 refine ae (hK1 _ _ ?_)
 refine ah fun K2 hK2 => aj (aa O O O (SL.Pure.sliceArr (sz := 1) O O Tryz.underlying26 (by kernel_rfl) (by decide)) ?_)
 refine am O (aN O O (by kernel_rfl) O O (fun w hM hK => hexK_c _ 32 _ id.l id.h (by decide) w (SL.RC.ofB (SL.Mem.blk (i := 0) O hM) (by decide)))) ?_
 intro _ _
 try simp only [setN, putD, selM, nth, cw, cx]
 refine aa O O O (ak O O) (ai ?_)
 refine ae (hK2 _ _ ?_)
 refine aw av (ar O (.cons (.tmp O) .nil) O) (fun w' hM' hK' => ?_)
 exact ⟨rfl, hK'⟩
theorem print_c (id : B 32) (w : World) : Calls Tryz.prog 76 [.agg (flat [id.seg])].toArray w fun e w' => e = .returned (str (idt id.l)) ∧ Keeps none1 w w' := by
 have hl := hexs_len id.l
 rw [id.h] at hl
 refine aJ (n := 7) (W := SL.none1) (m := []) Tryz.func76 O Tryz.ntmps76 O (aO _ _ _) ?_
 simp only [SL.enum, Nat.reduceAdd]
 refine ah fun K1 hK1 => aj (am O (bh _ O O O O O) ?_)
 intro b1 _
 try simp only [setN, putD, selM, nth, cw, cx]
 refine aa O O O (ak O O) (ai ?_)
 refine ae (hK1 _ _ ?_)
 refine ah fun K2 hK2 => aj (aa O O O (by first | exact ay 0 (k := 32) O O O (by kernel_rfl) O (by kernel_rfl)) ?_)
 refine am O (aN O O (by kernel_rfl) O O (fun w hM hK => digits_c id w)) ?_
 intro _ _
 try simp only [setN, putD, selM, nth, cw, cx]
 refine aa O O O (ba O (show _ = some (str [60]) from O) O (by simp; omega)) ?_
 refine aa O O O (ba O O (show _ = some (str [64, 104, 97, 115, 104, 62]) from O) (by simp; omega)) ?_
 refine aa O O O (ak O O) (ai ?_)
 refine ae (hK2 _ _ ?_)
 refine aw av (ar O (.cons (.tmp O) .nil) O) (fun w' hM' hK' => ?_)
 exact ⟨rfl, hK'⟩
theorem isZero_c (id : B 32) (w : World) : Calls Tryz.prog 68 [.agg (flat [id.seg])].toArray w fun e w' => e = .returned (.bool (decide (id = B.zero 32))) ∧ Keeps none1 w w' := by
 refine aJ (n := 6) (W := SL.none1) (m := []) Tryz.func68 O Tryz.ntmps68 O (aO _ _ _) ?_
 simp only [SL.enum, Nat.reduceAdd]
 refine ah fun K1 hK1 => aj (am O (bh _ O O O O O) ?_)
 intro b1 _
 try simp only [setN, putD, selM, nth, cw, cx]
 refine aa O O O (ak O O) (ai ?_)
 refine ae (hK1 _ _ ?_)
 refine ah fun K2 hK2 => aj (aa O O O (by first | exact ay 0 (k := 32) O O O (by kernel_rfl) O (by kernel_rfl)) ?_)
 refine aa O O O (bg [(0, 1), (1, 1), (2, 1), (3, 1), (4, 1), (5, 1), (6, 1), (7, 1), (8, 1), (9, 1), (10, 1), (11, 1), (12, 1), (13, 1), (14, 1), (15, 1), (16, 1), (17, 1), (18, 1), (19, 1), (20, 1), (21, 1), (22, 1), (23, 1), (24, 1), (25, 1), (26, 1), (27, 1), (28, 1), (29, 1), (30, 1), (31, 1)] [(B.zero 32).seg] O O .nil (by kernel_rfl) (by kernel_rfl) O) ?_
 refine aa O O O (SL.Pure.eqB O O O Tryz.underlying26 Tryz.underlying5 (by kernel_rfl) (by kernel_rfl)) ?_
 refine aa O O O (ak O O) (ai ?_)
 refine ae (hK2 _ _ ?_)
 refine aw av (ar O (.cons (.tmp O) .nil) O) (fun w' hM' hK' => ?_)
 exact ⟨rfl, hK'⟩
theorem idText_c (id : B 32) (w : World) : Calls Tryz.prog 56 [.agg (flat [id.seg])].toArray w fun e w' => e = .returned (str (msgM id)) ∧ Keeps none1 w w' := by
 refine aJ (n := 7) (W := SL.none1) (m := []) Tryz.func56 O Tryz.ntmps56 O (aO _ _ _) ?_
 simp only [SL.enum, Nat.reduceAdd]
 refine ah fun K1 hK1 => aj (am O (bh _ O O O O O) ?_)
 intro b1 _
 try simp only [setN, putD, selM, nth, cw, cx]
 refine aa O O O (ak O O) (ai ?_)
 refine ae (hK1 _ _ ?_)
 refine ah fun K2 hK2 => ah fun K3 hK3 => aj (aa O O O (by first | exact ay 0 (k := 32) O O O (by kernel_rfl) O (by kernel_rfl)) ?_)
 refine am O (aN O O (by kernel_rfl) O O (fun w hM hK => isZero_c id w)) ?_
 intro _ _
 try simp only [setN, putD, selM, nth, cw, cx]
 refine ai (ae ?_)
 refine hK3 _ _ (aH O (fun hc4 => ?_) (fun hc4 => ?_))
 ·
  have hz : id = B.zero 32 := by simpa using hc4
  refine ah fun K4 hK4 => aj (aa O O O (ak O O) ?_)
  refine ai (ae ?_)
  refine hK4 _ _ (aw (aB av) (ar O (.cons (.tmp O) .nil) O) (fun w' hM' hK' => ?_))
  exact ⟨by simp only [msgM, hz, if_true, if_false]; rfl, hK'⟩
 ·
  have hz : ¬ id = B.zero 32 := by simpa using hc4
  refine aC (ae ?_)
  refine hK2 _ _ (ah fun K5 hK5 => ?_)
  refine aj (aa O O O (by first | exact ay 0 (k := 32) O O O (by kernel_rfl) O (by kernel_rfl)) ?_)
  refine am O (aN O O (by kernel_rfl) O O (fun w hM hK => print_c id w)) ?_
  intro _ _
  try simp only [setN, putD, selM, nth, cw, cx]
  refine aa O O O (ak O O) (ai ?_)
  refine ae (hK5 _ _ ?_)
  refine aw av (ar O (.cons (.tmp O) .nil) O) (fun w' hM' hK' => ?_)
  exact ⟨by simp only [msgM, hz, if_true, if_false]; rfl, hK'⟩

theorem hexs_step2 (l : List UInt8) (i : Nat) (h : i < l.length) : bytesV (hexs (l.take i)) ++ bytesV [hexd ((l.getD i 0).toNat / 16), hexd ((l.getD i 0).toNat % 16)] = bytesV (hexs (l.take (i + 1))) := by
 rw [hexs_step l i h, ← bytesV_append]; rfl

theorem authorText_c (id : B 16) (w : World) : Calls Tryz.prog 54 [.agg (flat [id.seg])].toArray w fun e w' => e = .returned (str (hexs id.l)) ∧ Keeps none1 w w' := by
 refine aJ (n := 22) (W := SL.none1) (m := []) Tryz.func54 O Tryz.ntmps54 O (aO _ _ _) ?_
 simp only [SL.enum, Nat.reduceAdd]
 refine ah fun K1 hK1 => aj (am O (bh _ O O O O O) ?_)
 intro b1 _
 try simp only [setN, putD, selM, nth, cw, cx]
 refine aa O O O (ak O O) (ai ?_)
 refine ae (hK1 _ _ ?_)
 refine ah fun K2 hK2 => aj (aa O O O (ak O O) ?_)
 refine ai (ae ?_)
 refine hK2 _ _ (ah fun K3 hK3 => ?_)
 refine ah fun K4 hK4 => aj (aa O O O (by first | exact ay 0 (k := 16) O O O (by kernel_rfl) O (by kernel_rfl)) ?_)
 refine aa O O O (af O O) (ai ?_)
 refine SL.Ok.nilRow 5 1 (ae ?_)
 refine hK4 _ _ (aK ?_)
 refine bu (X := (Nat × Option Addr × Nat)) (φ := fun X => X.1 ≤ 16) (L := fun X => [(3, .slice X.2.1 (2 * X.1) X.2.2), (6, .agg (flat [id.seg])), (7, .int .i64 X.1)]) (M := fun X => [.row (.slice X.2.1 (2 * X.1) X.2.2) 5 1 (2 * X.1) (bytesV (hexs (id.l.take X.1)))]) (μ := fun X => 16 - X.1) ?_ ?_
 ·
  exact fun _ _ st => ⟨(0, none, 0), Nat.zero_le _, st.to [0] ⟨rfl, rfl, rfl, trivial⟩ O rfl⟩
 ·
  intro ⟨i, ga, gc⟩ hi
  try dsimp only
  dsimp only at hi
  refine ah fun K5 hK5 => aj (aa O O O (aT O O O) ?_)
  refine ai (ae ?_)
  refine hK5 _ _ (ah fun K6 hK6 => ?_)
  refine aH O (fun hc8 => ?_) (fun hc8 => ?_)
  ·
   have hlt : i < 16 := by simp at hc8; omega
   have hli : i < id.l.length := by rw [id.h]; exact hlt
   have hq := (id.l.getD i 0).toNat_lt
   refine aC (ae ?_)
   refine hK6 _ _ (ah fun K7 hK7 => ?_)
   refine aK (ah fun K8 hK8 => ?_)
   refine aj (aa O O O (SL.Pure.indexA1 (v := .int .u8 (id.l.getD i 0).toNat) O O O Tryz.underlying33 (by kernel_rfl) (by kernel_rfl) (by omega) (by omega) (cn id hlt)) ?_)
   refine aa O O O (ak O O) (ai ?_)
   refine ae (hK8 _ _ ?_)
   refine ck [] mixed O O ?_
   simp only [List.replicate, List.length_cons, List.length_nil, Nat.reduceAdd, SL.selM, SL.nth]
   refine aG 0 O O O O (by kernel_rfl) (by kernel_rfl) (by kernel_rfl) O (fun _ _ _ h => h) [] O O (af O O) ?_
   refine aG 1 O O O O (by kernel_rfl) (by kernel_rfl) (by kernel_rfl) O (fun _ _ _ h => h) [] O O (af O O) ?_
   refine aG 2 O O O O (by kernel_rfl) (by kernel_rfl) (by kernel_rfl) O (fun _ _ _ h => h) [] O O (cu O O O (by decide) (shr4 _)) ?_
   refine aG 3 O O O O (by kernel_rfl) (by kernel_rfl) (by kernel_rfl) O (fun _ _ _ h => h) [] O O (SL.Pure.indexSK O (show _ = some (str HX) from O) O Tryz.underlying9 (by omega) (hx16 _ (by omega))) ?_
   refine aG 4 O O O O (by kernel_rfl) (by kernel_rfl) (by kernel_rfl) O (fun _ _ _ h => h) [] O O (af O O) ?_
   refine aG 5 O O O O (by kernel_rfl) (by kernel_rfl) (by kernel_rfl) O (fun _ _ _ h => h) [] O O (cr (r := (((id.l.getD i 0).toNat % 16 : Nat) : Int)) O O O (and15w _)) ?_
   refine aG 6 O O O O (by kernel_rfl) (by kernel_rfl) (by kernel_rfl) O (fun _ _ _ h => h) [] O O (SL.Pure.indexSK O (show _ = some (str HX) from O) O Tryz.underlying9 (by omega) (hx16 _ (by omega))) ?_
   refine aY 7 O O (by kernel_rfl) O [] (fun _ => rfl) O (by exact bW #[.int .u8 0, .int .u8 0] [.int .u8 (hexd ((id.l.getD i 0).toNat / 16)).toNat, .int .u8 (hexd ((id.l.getD i 0).toNat % 16)).toNat] O O Tryz.underlying52 (by kernel_rfl) (by kernel_rfl) O (by decide) O O) ?_
   intro g17 _
   try simp only [setN, putD, selM, nth, cw, cx]
   refine aY 8 O O (by kernel_rfl) O [] (fun _ => rfl) O (by exact bF (by' := 1) 1 [] O O O O Tryz.underlying52 Tryz.underlying52 (by kernel_rfl) (fun w' hM _ => bK (i := 0) O hM) (SL.bytesV_one [hexd ((id.l.getD i 0).toNat / 16), hexd ((id.l.getD i 0).toNat % 16)]) O O O O (by omega) (by omega)) ?_
   intro v18 hv18
   try simp only [setN, putD, selM, nth, cw, cx]
   have hpx : bytesV (hexs (id.l.take i)) ++ [Value.int .u8 (hexd ((id.l.getD i 0).toNat / 16)).toNat, Value.int .u8 (hexd ((id.l.getD i 0).toNat % 16)).toNat] = bytesV (hexs (id.l.take (i + 1))) := hexs_step2 id.l i hli
   simp only [hpx, show 2 * i + 2 = 2 * (i + 1) by omega]
   refine aG 9 O O O O (by kernel_rfl) (by kernel_rfl) (by kernel_rfl) O (fun _ _ _ h => h) [] O O (ak O O) ?_
   refine bN (by kernel_rfl) ?_
   refine SL.Ok.rowSlice 0 O ?_
   rintro ⟨a', c', rfl, _⟩
   refine aQ (ae ?_)
   refine hK7 _ _ (aj ?_)
   refine aa O O O (aL O O O O (by omega) (by omega)) ?_
   refine aa O O O (af O O) (ai ?_)
   refine ae ?_
   exact bd (i + 1, a', c') [0] (show i + 1 ≤ 16 by omega) (show 16 - (i + 1) < 16 - i by omega) ⟨rfl, rfl, rfl, trivial⟩ O rfl
  ·
   have hie : i = 16 := by simp at hc8; omega
   subst hie
   have hll : (hexs id.l).length = 32 := by rw [hexs_len, id.h]
   rw [List.take_of_length_le (show id.l.length ≤ 16 by rw [id.h]; omega)]
   refine aU (aI ?_)
   refine aI (aV ?_)
   refine ae (hK3 _ _ ?_)
   refine ah fun K9 hK9 => aj (aa O O O (af O O) ?_)
   refine aa O O O (SL.Pure.bytesStr O O Tryz.underlying52 Tryz.underlying9 Tryz.underlying5 (fun w hM _ => bK (i := 0) O hM)) (aa O O O (ak O O) ?_)
   refine ai (ae ?_)
   refine hK9 _ _ (aw av (ar O (.cons (.tmp O) .nil) O) (fun w' hM' hK' => ?_))
   exact ⟨rfl, hK'⟩
end Go.Proofs.YthfhhkanpnemcaaGreatDoor
namespace Go.Proofs.YthfhhkanpnemcaaGreatDoor
open Go.SL Go.RowKit IntWalk
set_option linter.unusedVariables false
set_option maxRecDepth 100000
set_option linter.unusedSimpArgs false
set_option maxHeartbeats 400000

theorem join_snoc (sep : List UInt8) (xs : List (List UInt8)) (y : List UInt8) : Lib.join (xs ++ [y]) sep = (if 0 < xs.length then Lib.join xs sep ++ sep else Lib.join xs sep) ++ y := by
 cases xs with
 | nil => simp [Lib.join, List.intercalate]
 | cons x r =>
  rw [List.cons_append, Lib.join_cons, Lib.join_cons, if_pos (by simp)]
  simp [Lib.joinTail]
theorem jnA_join (sep : List UInt8) (xs : List (List UInt8)) : ∀ i, i ≤ xs.length → jnA sep xs i = Lib.join (xs.take i) sep
 | 0, _ => by simp [jnA, Lib.join, List.intercalate]
 | i + 1, h => by
  have hlt : i < xs.length := h
  rw [List.take_succ_eq_append_getElem hlt, join_snoc, jnA, jnA_join sep xs i (by omega), List.length_take, show min i xs.length = i by omega]
  simp [hlt]
theorem join_jn (sep : List UInt8) (xs : List (List UInt8)) : Lib.join xs sep = jn sep xs := by
 have := jnA_join sep xs xs.length (Nat.le_refl _)
 rw [List.take_length] at this
 exact this.symm
theorem idTs_step (xs : List (B 32)) {i : Nat} (h : i < xs.length) : (idTs (xs.take i)).map str ++ [str (idt xs[i].l)] = (idTs (xs.take (i + 1))).map str := by
 rw [List.take_succ_eq_append_getElem h]
 unfold idTs
 rw [List.map_append, List.map_append]
 rfl

abbrev idF : B 32 → Value := fun b => Value.agg (flat [b.seg])
theorem idKey : KeyLike Tryz.prog 26 idF := KeyLike.arr Tryz.underlying26 Tryz.underlying5 (by kernel_rfl)
abbrev seenL (xs : List (B 32)) : List (B 32 × Bool) := xs.map fun b => (b, true)
abbrev seenO (xs : List (B 32)) : Obj := mapO idF Value.bool (seenL xs)
theorem find_seen (xs : List (B 32)) (id : B 32) : look2 Value.bool (.bool false) (findM (seenL xs) id 0) = .bool (decide (id ∈ xs)) := by
  have h : ∀ (xs : List (B 32)) (i : Nat), look2 Value.bool (.bool false) (findM (seenL xs) id i) = .bool (decide (id ∈ xs)) := by
    intro xs
    induction xs with
    | nil => intro i; rfl
    | cons x r ih =>
      intro i
      show look2 Value.bool (.bool false) (if id = x then some (i, true) else findM (seenL r) id (i + 1)) = _
      by_cases h : id = x
      · rw [if_pos h]; simp [h, look2]
      · rw [if_neg h, ih (i + 1)]; simp [h]
  exact h xs 0
theorem find_none {xs : List (B 32)} {id : B 32} (h : id ∉ xs) : findM (seenL xs) id 0 = none := by
 rw [findM_none]
 intro p hp
 simp only [seenL, List.mem_map] at hp
 obtain ⟨b, hb, rfl⟩ := hp
 exact fun e => h (e ▸ hb)

def addE (xs : List (B 32)) (id : B 32) : Int := if id = B.zero 32 then 1 else if id ∈ xs then 7 else 0
def addM (xs : List (B 32)) (id : B 32) : List (B 32) := if addE xs id = 0 then xs ++ [id] else xs

theorem add_c (b : Nat) (xs : List (B 32)) (id : B 32) (w : World) (hm : Mem (blocksOf [.blk b (seenO xs)]) w [.blk b (seenO xs)] w) :
  Calls Tryz.prog 66 [.map (some b), .agg (flat [id.seg])].toArray w fun e w' => ∃ _ : Unit, True ∧ e = .returned (.int .i64 (addE xs id)) ∧ Post w (blocksOf [.blk b (seenO xs)]) [.blk b (seenO (addM xs id))] w' := by
 refine aJ (n := 13) (W := (blocksOf [.blk b (seenO xs)])) (m := [.blk b (seenO xs)]) Tryz.func66 O Tryz.ntmps66 O hm ?_
 simp only [SL.enum, Nat.reduceAdd]
 refine ah fun K1 hK1 => aj (am O (bh _ O O O O O) ?_)
 intro b3 _
 try simp only [setN, putD, selM, nth, cw, cx]
 refine aa O O O (ak O O) (ai ?_)
 refine ae (hK1 _ _ ?_)
 refine ah fun K2 hK2 => ah fun K3 hK3 => aj (aa O O O (by first | exact ay 0 (k := 32) O O O (by kernel_rfl) O (by kernel_rfl) | exact ay 1 (k := 32) O O O (by kernel_rfl) O (by kernel_rfl)) ?_)
 refine aa O O O (bg [(0, 1), (1, 1), (2, 1), (3, 1), (4, 1), (5, 1), (6, 1), (7, 1), (8, 1), (9, 1), (10, 1), (11, 1), (12, 1), (13, 1), (14, 1), (15, 1), (16, 1), (17, 1), (18, 1), (19, 1), (20, 1), (21, 1), (22, 1), (23, 1), (24, 1), (25, 1), (26, 1), (27, 1), (28, 1), (29, 1), (30, 1), (31, 1)] [(B.zero 32).seg] O O .nil (by kernel_rfl) (by kernel_rfl) O) ?_
 refine aa O O O (SL.Pure.eqB O O O Tryz.underlying26 Tryz.underlying5 (by kernel_rfl) (by kernel_rfl)) ?_
 refine ai (ae ?_)
 refine hK3 _ _ (aH O (fun hc7 => ?_) (fun hc7 => ?_))
 ·
  have hz : id = B.zero 32 := by simpa using hc7
  have he : addE xs id = 1 := by rw [addE, if_pos hz]
  have ha : addM xs id = xs := by unfold addM; rw [he]; simp
  refine ah fun K4 hK4 => aj (aa O O O (ak O O) ?_)
  refine ai (ae ?_)
  refine hK4 _ _ (aw (aB av) (ar O (.cons (.tmp O) .nil) O) (fun w' hM' hK' => ?_))
  exact ⟨(), trivial, by rw [he]; rfl, hK', by rw [ha]; exact hM'.sel [1] rfl⟩
 ·
  have hz : ¬ id = B.zero 32 := by simpa using hc7
  refine aC (ae ?_)
  refine hK2 _ _ (ah fun K5 hK5 => ?_)
  refine ah fun K6 hK6 => aj (aa O O O (af O O) ?_)
  refine aa O O O (by first | exact ay 0 (k := 32) O O O (by kernel_rfl) O (by kernel_rfl) | exact ay 1 (k := 32) O O O (by kernel_rfl) O (by kernel_rfl)) ?_
  refine aa O O O (SL.Pure.lookup (z := .bool false) 1 id idKey O O O Tryz.underlying116 (by kernel_rfl) O (find_seen xs id)) ?_
  refine ai (ae ?_)
  refine hK6 _ _ (aH O (fun hc10 => ?_) (fun hc10 => ?_))
  ·
   have hi : id ∈ xs := by simpa using hc10
   have he : addE xs id = 7 := by rw [addE, if_neg hz, if_pos hi]
   have ha : addM xs id = xs := by unfold addM; rw [he]; simp
   refine ah fun K7 hK7 => aj (aa O O O (ak O O) ?_)
   refine ai (ae ?_)
   refine hK7 _ _ (aw (aB av) (ar O (.cons (.tmp O) .nil) O) (fun w' hM' hK' => ?_))
   exact ⟨(), trivial, by rw [he]; rfl, hK', by rw [ha]; exact hM'.sel [1] rfl⟩
  ·
   have hi : id ∉ xs := by simpa using hc10
   have he : addE xs id = 0 := by rw [addE, if_neg hz, if_neg hi]
   have ha : addM xs id = xs ++ [id] := by unfold addM; rw [he]; simp
   have hmx : seenL xs ++ [(id, true)] = seenL (xs ++ [id]) := by simp [seenL]
   refine aC (ae ?_)
   refine hK5 _ _ (ah fun K8 hK8 => ?_)
   refine aj (aa O O O (af O O) ?_)
   refine aa O O O (by first | exact ay 0 (k := 32) O O O (by kernel_rfl) O (by kernel_rfl) | exact ay 1 (k := 32) O O O (by kernel_rfl) O (by kernel_rfl)) ?_
   refine am O (by exact SL.Eff.mapPut 1 id true idKey (.inl O) O O O O Tryz.underlying116 O (find_none hi)) ?_
   intro _ _
   try simp only [setN, putD, selM, nth, cw, cx]
   simp only [hmx]
   refine ai (ae ?_)
   refine hK8 _ _ (ah fun K9 hK9 => ?_)
   refine aj (aa O O O (ak O O) ?_)
   refine ai (ae ?_)
   refine hK9 _ _ (aw av (ar O (.cons (.tmp O) .nil) O) (fun w' hM' hK' => ?_))
   exact ⟨(), trivial, by rw [he]; rfl, hK', by rw [ha]; exact hM'.sel [1] rfl⟩

theorem rcheck_c (xs : List (B 32)) (a : Option Addr) (len cap : Nat) (hcap : len ≤ cap) (w : World) (hR : RC 32 w a len (idsV xs)) :
  Calls Tryz.prog 45 [.slice a len cap].toArray w fun e w' => e = .returned (.int .i64 (refErr xs)) ∧ Keeps none1 w w' := by
 have hRR := hR
 obtain ⟨h1, h2, h3⟩ := hR
 have hl : xs.length = len := by rw [idsV_len] at h1; omega
 subst hl
 unfold maxLen at h2
 refine aJ (n := 24) (W := SL.none1) (m := []) Tryz.func45 O Tryz.ntmps45 O (aO _ _ _) ?_
 simp only [SL.enum, Nat.reduceAdd]
 refine ah fun K1 hK1 => aj (aa O O O (ak O O) ?_)
 refine ai (ae ?_)
 refine hK1 _ _ (ah fun K2 hK2 => ?_)
 refine ah fun K3 hK3 => aj (aa O O O (af O O) ?_)
 refine aa O O O (bw O O O Tryz.underlying24) (aa O O O (bH O O O) ?_)
 refine ai (ae ?_)
 refine hK3 _ _ (aH O (fun hc9 => ?_) (fun hc9 => ?_))
 ·
  have hgt : 20 < xs.length := by simp at hc9; omega
  refine ah fun K4 hK4 => aj (aa O O O (ak O O) ?_)
  refine ai (ae ?_)
  refine hK4 _ _ (aw (aB av) (ar O (.cons (.tmp O) .nil) O) (fun w' hM' hK' => ?_))
  exact ⟨by rw [refErr, if_pos hgt]; rfl, hK'⟩
 ·
  have hgt : ¬ 20 < xs.length := by simp at hc9; omega
  refine aC (ae ?_)
  refine hK2 _ _ (ah fun K5 hK5 => ?_)
  refine aj (am O (SL.Eff.makeMap O O O) ?_)
  intro b10 _
  try simp only [setN, putD, selM, nth, cw, cx]
  refine aa O O O (ak O O) (ai ?_)
  refine ae (hK5 _ _ ?_)
  refine ah fun K6 hK6 => ah fun K7 hK7 => aj (aa O O O (af O O) ?_)
  refine aa O O O (bw O O O Tryz.underlying24) (aa O O O (af O O) ?_)
  refine ai (ae ?_)
  refine hK7 _ _ (aK ?_)
  refine bu (X := Nat) (φ := fun i => i ≤ xs.length ∧ rck (xs.take i) (xs.drop i) = rck [] xs) (L := fun i => [(3, .map (some b10)), (11, .slice a xs.length cap), (12, .int .i64 xs.length), (13, .int .i64 i)]) (M := fun i => [.blk b10 (seenO (xs.take i))]) (μ := fun i => xs.length - i) ?_ ?_
  ·
   exact fun _ _ st => ⟨0, ⟨Nat.zero_le _, by simp⟩, st.to [0] ⟨rfl, rfl, rfl, rfl, trivial⟩ O rfl⟩
  ·
   intro i ⟨hi, hrk⟩
   try dsimp only
   refine ah fun K8 hK8 => aj (aa O O O (aT O O O) ?_)
   refine ai (ae ?_)
   refine hK8 _ _ (ah fun K9 hK9 => ?_)
   refine aH O (fun hc14 => ?_) (fun hc14 => ?_)
   ·
    have hlt : i < xs.length := by simp at hc14; omega
    rcases h3 with h3 | ⟨b, off, rfl, hb, hc⟩
    ·
     omega
    have hx : xs[i]? = some xs[i] := List.getElem?_eq_getElem hlt
    have hrng := RC.id hc hx
    have hdr : xs.drop i = xs[i] :: xs.drop (i + 1) := List.drop_eq_getElem_cons hlt
    rw [hdr, rck] at hrk
    refine aC (ae ?_)
    refine hK9 _ _ (ah fun K10 hK10 => ?_)
    refine aK (ah fun K11 hK11 => ?_)
    refine aj (aa O O O (bx (sz := 32) (off' := off + i * 32) O O O Tryz.underlying24 (by kernel_rfl) (by omega) (by omega) (by omega)) ?_)
    refine aa O O O (SL.Pure.loadOR (k := 32) hrng hb (fun h => h) O O (by kernel_rfl) O (by kernel_rfl)) ?_
    refine am O (aX [(B.zero 32).seg] O O O (by kernel_rfl)) ?_
    intro b5 _
    try simp only [setN, putD, selM, nth, cw, cx]
    refine am O (by first | exact ap (k := 32) 0 _ O O O O O O (by kernel_rfl) O O | exact ap (k := 32) 1 _ O O O O O O (by kernel_rfl) O O) ?_
    intro _ _
    try simp only [setN, putD, selM, nth, cw, cx]
    refine ai (ae ?_)
    refine hK11 _ _ (ah fun K12 hK12 => ?_)
    refine aj (aa O O O (af O O) ?_)
    refine aa O O O (by first | exact ay 0 (k := 32) O O O (by kernel_rfl) O (by kernel_rfl) | exact ay 1 (k := 32) O O O (by kernel_rfl) O (by kernel_rfl)) ?_
    refine am O (aM [1] [0] O O (by kernel_rfl) O O O O (fun w hM hK => add_c b10 (xs.take i) xs[i] w (hM.sel [1] O).own)) ?_
    intro _ _
    try simp only [setN, putD, selM, nth, cw, cx]
    refine aa O O O (ak O O) (ai ?_)
    refine ae (hK12 _ _ ?_)
    refine ah fun K13 hK13 => aj (aa O O O (af O O) ?_)
    refine aa O O O (bl O O O) (ai ?_)
    refine ae (hK13 _ _ ?_)
    refine aH O (fun hc21 => ?_) (fun hc21 => ?_)
    ·
     have he : ¬ addE (xs.take i) xs[i] = 0 := by simpa using hc21
     refine ah fun K14 hK14 => aj (aa O O O (af O O) ?_)
     refine aa O O O (ak O O) (ai ?_)
     refine ae (hK14 _ _ ?_)
     refine aw (aP (aB (aB (aP (aB av))))) (ar O (.cons (.tmp O) .nil) O) (fun w' hM' hK' => ?_)
     exact ⟨by rw [refErr, if_neg hgt, ← hrk]; unfold addE at he ⊢; split <;> (try split) <;> simp_all <;> rfl, hK'⟩
    ·
     have he : addE (xs.take i) xs[i] = 0 := by simpa using hc21
     have hz : ¬ xs[i] = B.zero 32 := fun h => by rw [addE, if_pos h] at he; cases he
     have hn : xs[i] ∉ xs.take i := fun h => by rw [addE, if_neg hz, if_pos h] at he; cases he
     have ha : addM (xs.take i) xs[i] = xs.take (i + 1) := by rw [addM, if_pos he, List.take_succ_eq_append_getElem hlt]
     rw [if_neg hz, if_neg hn, ← List.take_succ_eq_append_getElem hlt] at hrk
     simp only [ha]
     refine aC (aQ ?_)
     refine ae (hK10 _ _ ?_)
     refine aj (aa O O O (aL O O O O (by omega) (by omega)) ?_)
     refine aa O O O (af O O) (ai ?_)
     refine ae ?_
     exact bd (i + 1) [0] ⟨by omega, hrk⟩ (show xs.length - (i + 1) < xs.length - i by omega) ⟨rfl, rfl, rfl, rfl, trivial⟩ O rfl
   ·
    have hie : i = xs.length := by simp at hc14; omega
    subst hie
    rw [List.drop_length] at hrk
    refine aU (aI ?_)
    refine aI (aV ?_)
    refine ae (hK6 _ _ ?_)
    refine ah fun K15 hK15 => aj (aa O O O (ak O O) ?_)
    refine ai (ae ?_)
    refine hK15 _ _ (aw av (ar O (.cons (.tmp O) .nil) O) (fun w' hM' hK' => ?_))
    exact ⟨by rw [refErr, if_neg hgt, ← hrk]; rfl, hK'⟩

theorem rprint_c (xs : List (B 32)) (a : Option Addr) (len cap : Nat) (hcap : len ≤ cap) (w : World) (hR : RC 32 w a len (idsV xs)) :
  Calls Tryz.prog 53 [.slice a len cap].toArray w fun e w' => e = .returned (.tuple #[str (if refErr xs = 0 then prM xs else []), .int .i64 (refErr xs)]) ∧ Keeps none1 w w' := by
 have hRR := hR
 obtain ⟨h1, h2, h3⟩ := hR
 have hl : xs.length = len := by rw [idsV_len] at h1; omega
 subst hl
 unfold maxLen at h2
 have hjb := jnA_bound xs xs.length (Nat.le_refl _)
 refine aJ (n := 27) (W := SL.none1) (m := []) Tryz.func53 O Tryz.ntmps53 O (aO _ _ _) ?_
 simp only [SL.enum, Nat.reduceAdd]
 refine ah fun K1 hK1 => aj (aa O O O (ak O O) ?_)
 refine aa O O O (ak O O) (ai ?_)
 refine ae (hK1 _ _ ?_)
 refine ah fun K2 hK2 => ah fun K3 hK3 => aj (aa O O O (af O O) ?_)
 refine am O (aN O O (by kernel_rfl) O O (fun w hM hK => rcheck_c xs a xs.length cap hcap w (hRR.keep hK))) ?_
 intro _ _
 try simp only [setN, putD, selM, nth, cw, cx]
 refine aa O O O (ak O O) (ai ?_)
 refine ae (hK3 _ _ ?_)
 refine ah fun K4 hK4 => aj (aa O O O (af O O) ?_)
 refine aa O O O (bl O O O) (ai ?_)
 refine ae (hK4 _ _ ?_)
 refine aH O (fun hc11 => ?_) (fun hc11 => ?_)
 ·
  have he : ¬ refErr xs = 0 := by simpa using hc11
  refine ah fun K5 hK5 => aj (aa O O O (af O O) ?_)
  refine aa O O O (ak O O) (aa O O O (ak O O) ?_)
  refine ai (ae ?_)
  refine hK5 _ _ (aw (aB av) (ar O (.cons (.tmp O) (.cons (.tmp O) .nil)) O) (fun w' hM' hK' => ?_))
  exact ⟨by rw [if_neg he]; rfl, hK'⟩
 ·
  have he : refErr xs = 0 := by simpa using hc11
  have h20 := refErr_len he
  refine aC (ae ?_)
  refine hK2 _ _ (ah fun K6 hK6 => ?_)
  refine aj (aa O O O (ak O O) ?_)
  refine ai (ae ?_)
  refine hK6 _ _ (ah fun K7 hK7 => ?_)
  refine ah fun K8 hK8 => aj (aa O O O (af O O) ?_)
  refine aa O O O (bw O O O Tryz.underlying24) (aa O O O (af O O) ?_)
  refine ai (SL.Ok.nilRow 9 1 ?_)
  refine ae (hK8 _ _ ?_)
  refine aK (bu (X := (Nat × Option Addr × Nat)) (φ := fun X => X.1 ≤ xs.length ∧ X.1 ≤ X.2.2) (L := fun X => [(5, .slice X.2.1 X.1 X.2.2), (13, .slice a xs.length cap), (14, .int .i64 xs.length), (15, .int .i64 X.1)]) (M := fun X => [.row (.slice X.2.1 X.1 X.2.2) 9 1 X.1 ((idTs (xs.take X.1)).map str)]) (μ := fun X => xs.length - X.1) ?_ ?_)
  ·
   exact fun _ _ st => ⟨(0, none, 0), ⟨Nat.zero_le _, Nat.zero_le _⟩, st.to [0] ⟨rfl, rfl, rfl, rfl, trivial⟩ O rfl⟩
  ·
   intro ⟨i, ga, gc⟩ ⟨hi, hgc⟩
   try dsimp only
   dsimp only at hi hgc
   refine ah fun K9 hK9 => aj (aa O O O (aT O O O) ?_)
   refine ai (ae ?_)
   refine hK9 _ _ (ah fun K10 hK10 => ?_)
   refine aH O (fun hc16 => ?_) (fun hc16 => ?_)
   ·
    have hlt : i < xs.length := by simp at hc16; omega
    rcases h3 with h3 | ⟨b, off, rfl, hb, hc⟩
    ·
     omega
    have hx : xs[i]? = some xs[i] := List.getElem?_eq_getElem hlt
    have hrng := RC.id hc hx
    refine aC (ae ?_)
    refine hK10 _ _ (ah fun K11 hK11 => ?_)
    refine aK (ah fun K12 hK12 => ?_)
    refine aj (aa O O O (bx (sz := 32) (off' := off + i * 32) O O O Tryz.underlying24 (by kernel_rfl) (by omega) (by omega) (by omega)) ?_)
    refine aa O O O (SL.Pure.loadOR (k := 32) hrng hb (fun h => h) O O (by kernel_rfl) O (by kernel_rfl)) ?_
    refine am O (aX [(B.zero 32).seg] O O O (by kernel_rfl)) ?_
    intro b7 _
    try simp only [setN, putD, selM, nth, cw, cx]
    refine am O (by first | exact ap (k := 32) 0 _ O O O O O O (by kernel_rfl) O O | exact ap (k := 32) 1 _ O O O O O O (by kernel_rfl) O O) ?_
    intro _ _
    try simp only [setN, putD, selM, nth, cw, cx]
    refine ai (ae ?_)
    refine hK12 _ _ (aj ?_)
    refine aa O O O (af O O) (aa O O O (by first | exact ay 0 (k := 32) O O O (by kernel_rfl) O (by kernel_rfl) | exact ay 1 (k := 32) O O O (by kernel_rfl) O (by kernel_rfl)) ?_)
    refine am O (aN O O (by kernel_rfl) O O (fun w hM hK => print_c xs[i] w)) ?_
    intro _ _
    try simp only [setN, putD, selM, nth, cw, cx]
    refine am O (by exact bW #[str []] [str (idt xs[i].l)] O O Tryz.underlying23 (by kernel_rfl) (by kernel_rfl) O (by decide) O O) ?_
    intro g22 _
    try simp only [setN, putD, selM, nth, cw, cx]
    refine am O (by exact bF (by' := 16) 2 [] O O O O Tryz.underlying23 Tryz.underlying23 (by kernel_rfl) (fun w' hM _ => bK (i := 0) O hM) (SL.strs_one [idt xs[i].l]) O O O O (by omega) (by omega)) ?_
    intro v23 hv23
    try simp only [setN, putD, selM, nth, cw, cx]
    have hpx : (idTs (xs.take i)).map str ++ List.map str [idt xs[i].l] = (idTs (xs.take (i + 1))).map str := idTs_step xs hlt
    simp only [hpx]
    refine SL.Ok.rowSlice 0 O ?_
    rintro ⟨a', c', rfl, hc'⟩
    refine aa O O O (ak O O) (ai ?_)
    refine aQ (ae ?_)
    refine hK11 _ _ (aj ?_)
    refine aa O O O (aL O O O O (by omega) (by omega)) ?_
    refine aa O O O (af O O) (ai ?_)
    refine ae ?_
    exact bd (i + 1, a', c') [0] ⟨show i + 1 ≤ xs.length by omega, hc'⟩ (show xs.length - (i + 1) < xs.length - i by omega) ⟨rfl, rfl, rfl, rfl, trivial⟩ O rfl
   ·
    have hie : i = xs.length := by simp at hc16; omega
    subst hie
    rw [List.take_length]
    refine aU (aI ?_)
    refine aI (aV ?_)
    refine ae (hK7 _ _ ?_)
    refine ah fun K13 hK13 => aj (aa O O O (af O O) ?_)
    refine am O (aN O O (by kernel_rfl) O O (fun w hM hK => join_c (idTs xs) [32] ga xs.length gc hgc (by rw [join_jn]; simp only [jn, idTs, List.length_map] at *; omega) (by simp only [idTs, List.length_map]; omega) w (bK (i := 0) O hM))) ?_
    intro _ _
    try simp only [setN, putD, selM, nth, cw, cx]
    refine aa O O O (ak O O) (aa O O O (ak O O) ?_)
    refine ai (ae ?_)
    refine hK13 _ _ (aw av (ar O (.cons (.tmp O) (.cons (.tmp O) .nil)) O) (fun w' hM' hK' => ?_))
    exact ⟨by rw [if_pos he, he, prM, ← join_jn]; rfl, hK'⟩
end Go.Proofs.YthfhhkanpnemcaaGreatDoor
namespace Go.Proofs.YthfhhkanpnemcaaGreatDoor
open Go.SL Go.RowKit IntWalk
set_option linter.unusedVariables false
set_option maxRecDepth 100000
set_option linter.unusedSimpArgs false
set_option maxHeartbeats 400000

/-- characters from f on, k of them, laid from n on -/
def putr (o : B 64) (n : Nat) (f : UInt8) : Nat → B 64
 | 0 => o
 | k + 1 => (putr o n f k).set (n + k) (f + UInt8.ofNat k)

abbrev boO (o : B 64) : Obj := .cells (flat [o.seg]) 199 (0, 0)
abbrev intO (v : Nat) : Obj := .cells (flat [Seg.one (.int .i64 (v : Int)) rfl]) 3 (0, 0)

theorem fill_c (bo bn : Nat) (o : B 64) (n k : Nat) (f t : UInt8) (hft : t.toNat + 1 = f.toNat + k) (ht : t.toNat < 255) (hn : n + k ≤ 64) (w : World) (hm : Mem (blocksOf [.blk bo (boO o), .blk bn (intO n)]) w [.blk bo (boO o), .blk bn (intO n)] w) :
  Calls Tryz.prog 174 [.int .u8 f.toNat, .int .u8 t.toNat, .pointer (some ⟨bo, 0, none⟩), .pointer (some ⟨bn, 0, none⟩)].toArray w fun e w' => ∃ _ : Unit, True ∧ e = .returned (.tuple #[]) ∧
   Post w (blocksOf [.blk bo (boO o), .blk bn (intO n)]) [.blk bo (boO (putr o n f k)), .blk bn (intO (n + k))] w' := by
 have ad : ∀ i, i < k → (f + UInt8.ofNat i).toNat = f.toNat + i := fun i hi => by
  rw [UInt8.toNat_add, UInt8.toNat_ofNat']
  omega
 refine aJ (n := 18) (W := (blocksOf [.blk bo (boO o), .blk bn (intO n)])) (m := [.blk bo (boO o), .blk bn (intO n)]) Tryz.func174 O Tryz.ntmps174 O hm ?_
 simp only [SL.enum, Nat.reduceAdd]
 refine ah fun K1 hK1 => aj (aa O O O (af O O) ?_)
 refine aa O O O (ak O O) (ai ?_)
 refine ae (hK1 _ _ ?_)
 refine aK (bu (X := Nat) (φ := fun i => i ≤ k) (L := fun i => [(1, .int .u8 t.toNat), (2, .pointer (some ⟨bo, 0, none⟩)), (3, .pointer (some ⟨bn, 0, none⟩)), (6, .int .u8 ((f.toNat + i : Nat) : Int))]) (M := fun i => [.blk bo (boO (putr o n f i)), .blk bn (intO (n + i))]) (μ := fun i => k - i) ?_ ?_)
 ·
  exact fun _ _ st => ⟨0, Nat.zero_le _, st.to [0, 1] ⟨rfl, rfl, rfl, rfl, trivial⟩ O rfl⟩
 ·
  intro i hi
  try dsimp only
  refine ah fun K2 hK2 => ah fun K3 hK3 => aj (aa O O O (af O O) ?_)
  refine aa O O O (af O O) (aa O O O (bD O O O) ?_)
  refine ai (ae ?_)
  refine hK3 _ _ (aH O (fun hc10 => ?_) (fun hc10 => ?_))
  ·
   have hlt : i < k := by simp at hc10; omega
   refine aC (ae ?_)
   refine hK2 _ _ (ah fun K4 hK4 => ?_)
   refine aK (ah fun K5 hK5 => ?_)
   refine aj (aa O O O (by first | exact al 0 O O O O (by kernel_rfl) | exact al 1 O O O O (by kernel_rfl)) ?_)
   refine aa O O O (af O O) (aa O O O (bR (off' := n + i) (sz := 1) O O O Tryz.underlying199 (by kernel_rfl) (by omega) (by omega) (by omega)) ?_)
   refine am O (by exact cl (u := f + UInt8.ofNat i) 0 O O O (by rw [ad i hlt]; rfl) O (by kernel_rfl) (by omega)) ?_
   intro _ _
   try simp only [setN, putD, selM, nth, cw, cx]
   refine ai (ae ?_)
   refine hK5 _ _ (aj ?_)
   refine aa O O O (by first | exact al 0 O O O O (by kernel_rfl) | exact al 1 O O O O (by kernel_rfl)) ?_
   refine aa O O O (aL O O O O (by omega) (by omega)) ?_
   refine am O (by first | exact ap (k := 1) 0 [SL.Seg.one _ rfl] O O O O O O (by kernel_rfl) O O | exact ap (k := 1) 1 [SL.Seg.one _ rfl] O O O O O O (by kernel_rfl) O O) ?_
   intro _ _
   try simp only [setN, putD, selM, nth, cw, cx]
   refine ai (aQ ?_)
   refine ae (hK4 _ _ ?_)
   refine aj (aa O O O (af O O) ?_)
   refine aa O O O (SL.Pure.addW (r := ((f.toNat + (i + 1) : Nat) : Int)) O O O (by rw [IntKind.wrap_u8]; omega)) ?_
   refine aa O O O (ak O O) (ai ?_)
   refine ae ?_
   exact bd (i + 1) [0, 1] (show i + 1 ≤ k by omega) (show k - (i + 1) < k - i by omega) ⟨rfl, rfl, rfl, rfl, trivial⟩ O rfl
  ·
   have hie : i = k := by simp at hc10; omega
   subst hie
   refine aU (aI ?_)
   refine aI (aV ?_)
   refine ci (fun _ _ h => h) (ar O .nil O) (fun w' hM' hK' => ?_)
   exact ⟨(), trivial, rfl, hK', hM'⟩

def A64B : B 64 := ⟨A64, by decide⟩
theorem alpha_eq : putr (putr (putr (putr (putr (B.zero 64) 0 65 26) 26 97 26) 52 48 10) 62 43 1) 63 47 1 = A64B := B.ext (by decide)

theorem alphabet_c (w : World) : Calls Tryz.prog 156 (#[] : Array Value) w fun e w' => e = .returned (.agg (flat [A64B.seg])) ∧ Keeps none1 w w' := by
 refine aJ (n := 16) (W := SL.none1) (m := []) Tryz.func156 O Tryz.ntmps156 O (aO _ _ _) ?_
 simp only [SL.enum, Nat.reduceAdd]
 refine ah fun K1 hK1 => aj (am O (aX [(B.zero 64).seg] O O O (by kernel_rfl)) ?_)
 intro b0 _
 try simp only [setN, putD, selM, nth, cw, cx]
 refine ai (ae ?_)
 refine hK1 _ _ (ah fun K2 hK2 => ?_)
 refine aj (am O (aX [(B.zero 64).seg] O O O (by kernel_rfl)) ?_)
 intro b1 _
 try simp only [setN, putD, selM, nth, cw, cx]
 refine ai (ae ?_)
 refine hK2 _ _ (ah fun K3 hK3 => ?_)
 refine aj (am O (aX [Seg.one (.int .i64 0) rfl] O O O (by kernel_rfl)) ?_)
 intro b2 _
 try simp only [setN, putD, selM, nth, cw, cx]
 refine am O (by first | exact ap (k := 1) 0 [SL.Seg.one _ rfl] O O O O O O (by kernel_rfl) O O | exact ap (k := 1) 1 [SL.Seg.one _ rfl] O O O O O O (by kernel_rfl) O O | exact ap (k := 1) 2 [SL.Seg.one _ rfl] O O O O O O (by kernel_rfl) O O) ?_
 intro _ _
 try simp only [setN, putD, selM, nth, cw, cx]
 refine ai (ae ?_)
 refine hK3 _ _ (ah fun K4 hK4 => ?_)
 refine aj (aa O O O (SL.Pure.makeFuncC O O) ?_)
 refine aa O O O (ak O O) (ai ?_)
 refine ae (hK4 _ _ ?_)
 refine ah fun K5 hK5 => aj (aa O O O (af O O) ?_)
 refine am O (by exact SL.Eff.callFn (first := []) (cap := [.pointer (some ⟨b1, 0, none⟩), .pointer (some ⟨b2, 0, none⟩)]) [1, 0] [2] O O (by kernel_rfl) O O O O (fun w hM hK => fill_c b1 b2 (B.zero 64) 0 26 65 90 O (by decide) (by decide) w (hM.sel [1, 0] O).own)) ?_
 intro _ _
 try simp only [setN, putD, selM, nth, cw, cx]
 refine ai (ae ?_)
 refine hK5 _ _ (ah fun K6 hK6 => ?_)
 refine aj (aa O O O (af O O) ?_)
 refine am O (by exact SL.Eff.callFn (first := []) (cap := [.pointer (some ⟨b1, 0, none⟩), .pointer (some ⟨b2, 0, none⟩)]) [0, 1] [2] O O (by kernel_rfl) O O O O (fun w hM hK => fill_c b1 b2 _ 26 26 97 122 O (by decide) (by decide) w (hM.sel [0, 1] O).own)) ?_
 intro _ _
 try simp only [setN, putD, selM, nth, cw, cx]
 refine ai (ae ?_)
 refine hK6 _ _ (ah fun K7 hK7 => ?_)
 refine aj (aa O O O (af O O) ?_)
 refine am O (by exact SL.Eff.callFn (first := []) (cap := [.pointer (some ⟨b1, 0, none⟩), .pointer (some ⟨b2, 0, none⟩)]) [0, 1] [2] O O (by kernel_rfl) O O O O (fun w hM hK => fill_c b1 b2 _ 52 10 48 57 O (by decide) (by decide) w (hM.sel [0, 1] O).own)) ?_
 intro _ _
 try simp only [setN, putD, selM, nth, cw, cx]
 refine ai (ae ?_)
 refine hK7 _ _ (ah fun K8 hK8 => ?_)
 refine aj (aa O O O (af O O) ?_)
 refine am O (by exact SL.Eff.callFn (first := []) (cap := [.pointer (some ⟨b1, 0, none⟩), .pointer (some ⟨b2, 0, none⟩)]) [0, 1] [2] O O (by kernel_rfl) O O O O (fun w hM hK => fill_c b1 b2 _ 62 1 43 43 O (by decide) (by decide) w (hM.sel [0, 1] O).own)) ?_
 intro _ _
 try simp only [setN, putD, selM, nth, cw, cx]
 refine ai (ae ?_)
 refine hK8 _ _ (ah fun K9 hK9 => ?_)
 refine aj (aa O O O (af O O) ?_)
 refine am O (by exact SL.Eff.callFn (first := []) (cap := [.pointer (some ⟨b1, 0, none⟩), .pointer (some ⟨b2, 0, none⟩)]) [0, 1] [2] O O (by kernel_rfl) O O O O (fun w hM hK => fill_c b1 b2 _ 63 1 47 47 O (by decide) (by decide) w (hM.sel [0, 1] O).own)) ?_
 intro _ _
 try simp only [setN, putD, selM, nth, cw, cx]
 refine ai ?_
 simp only [alpha_eq]
 refine ae (hK9 _ _ ?_)
 refine ah fun K10 hK10 => aj (aa O O O (by first | exact ay 0 (k := 64) O O O (by kernel_rfl) O (by kernel_rfl) | exact ay 1 (k := 64) O O O (by kernel_rfl) O (by kernel_rfl) | exact ay 2 (k := 64) O O O (by kernel_rfl) O (by kernel_rfl)) ?_)
 refine am O (by first | exact ap (k := 64) 0 _ O O O O O O (by kernel_rfl) O O | exact ap (k := 64) 1 _ O O O O O O (by kernel_rfl) O O | exact ap (k := 64) 2 _ O O O O O O (by kernel_rfl) O O) ?_
 intro _ _
 try simp only [setN, putD, selM, nth, cw, cx]
 refine ai (ae ?_)
 refine hK10 _ _ (aw av (ar O (.cons (by first | exact SL.RV.cellA 2 (k := 64) O O (by kernel_rfl) O (by kernel_rfl)) .nil) O) (fun w' hM' hK' => ?_))
 exact ⟨rfl, hK'⟩

/-! ### Encoding -/
theorem byt_prog (s : BS) (k : Nat) (h : bok s k) (c : UInt8) : byt s c 8 =
  if s.h + 8 < 12 then ⟨s.o ++ [a64 ((s.v * 2 ^ 8 + c.toNat) / 2 ^ (s.h + 2))], (s.v * 2 ^ 8 + c.toNat) % 2 ^ (s.h + 2), s.h + 2⟩
  else ⟨s.o ++ [a64 ((s.v * 2 ^ 8 + c.toNat) / 2 ^ (s.h + 2))] ++ [a64 ((s.v * 2 ^ 8 + c.toNat) % 2 ^ (s.h + 2) / 2 ^ (s.h - 4))], (s.v * 2 ^ 8 + c.toNat) % 2 ^ (s.h + 2) % 2 ^ (s.h - 4), s.h - 4⟩ := by
 obtain ⟨h1, h2, h3⟩ := h
 have hc := c.toNat_lt
 obtain ⟨o, v, hh⟩ := s
 dsimp only at *
 have hc6 : hh = 0 ∨ hh = 1 ∨ hh = 2 ∨ hh = 3 ∨ hh = 4 ∨ hh = 5 := by omega
 rcases hc6 with rfl | rfl | rfl | rfl | rfl | rfl
 all_goals
  simp only [byt, bit1, bitAt, Nat.reduceAdd, Nat.reduceSub, Nat.reducePow, Nat.reduceLT, if_true, if_false, Nat.reduceEqDiff, Nat.zero_add] at *
 all_goals
  simp (config := { decide := true }) only [if_true, if_false, BS.mk.injEq, List.append_assoc, List.cons_append, List.nil_append, and_true]
  try refine ⟨?_, ?_⟩
 all_goals (try omega)
 all_goals (first | (refine congrArg (o ++ ·) ?_; simp only [List.cons.injEq, and_true]; refine ⟨?_, ?_⟩ <;> (congr 1; omega)) | (congr 3 <;> omega))
end Go.Proofs.YthfhhkanpnemcaaGreatDoor
namespace Go.Proofs.YthfhhkanpnemcaaGreatDoor
open Go.SL Go.RowKit IntWalk
set_option linter.unusedVariables false
set_option maxRecDepth 100000
set_option linter.unusedSimpArgs false
set_option maxHeartbeats 400000

def emit1 (s : BS) : BS := ⟨s.o ++ [a64 (s.v / 2 ^ (s.h - 6))], s.v % 2 ^ (s.h - 6), s.h - 6⟩
def fin6 : Nat → BS → BS
 | 0, s => s
 | k + 1, s => if 6 ≤ s.h then fin6 k (emit1 s) else s
theorem fin6_byt (s : BS) (k : Nat) (h : bok s k) (c : UInt8) : fin6 2 ⟨s.o, s.v * 2 ^ 8 + c.toNat, s.h + 8⟩ = byt s c 8 := by
 have e1 : s.h + 8 - 6 = s.h + 2 := by omega
 have e2 : s.h + 2 - 6 = s.h - 4 := by omega
 rw [byt_prog s k h c]
 show (if 6 ≤ s.h + 8 then (if 6 ≤ s.h + 8 - 6 then fin6 0 (emit1 (emit1 ⟨s.o, s.v * 2 ^ 8 + c.toNat, s.h + 8⟩)) else emit1 ⟨s.o, s.v * 2 ^ 8 + c.toNat, s.h + 8⟩) else _) = _
 rw [if_pos (by omega)]
 by_cases h4 : s.h + 8 < 12
 ·
  rw [if_pos h4, if_neg (by omega)]
  simp only [emit1, e1]
 ·
  rw [if_neg h4, if_pos (by omega)]
  simp only [emit1, fin6, e1, e2]

abbrev bldO (p a : Option Addr) (n c : Nat) : Obj := .cells (flat (bsegs [] p a n c [])) TBld (0, 0)
abbrev rowB (a : Option Addr) (n c : Nat) (o : List UInt8) : Res := .row (.slice a n c) 5 1 n (bytesV o)
abbrev eM (bc bb bv bch : Nat) (s : BS) (n : Nat) (p a : Option Addr) (c : Nat) : List Res := [.blk bc (intO s.h), .blk bb (bldO p a n c), rowB a n c s.o, .blk bv (intO s.v), .blk bch (boO A64B)]

theorem emit_c (bc bb bv bch : Nat) (s : BS) (n : Nat) (p a : Option Addr) (c : Nat) (h6 : 6 ≤ s.h) (h13 : s.h ≤ 13) (hv : s.v < 2 ^ s.h) (hn : n ≤ 1000000) (hbo : bldOk bb [] p) (hok : okV (.slice a n c)) (w : World)
  (hm : Mem (blocksOf (eM bc bb bv bch s n p a c)) w (eM bc bb bv bch s n p a c) w) :
  Calls Tryz.prog 157 [.pointer (some ⟨bc, 0, none⟩), .pointer (some ⟨bb, 0, none⟩), .pointer (some ⟨bch, 0, none⟩), .pointer (some ⟨bv, 0, none⟩)].toArray w fun e w' => ∃ x : Option Addr × Nat, okV (.slice x.1 (n + 1) x.2) ∧ e = .returned (.tuple #[]) ∧
   Post w (blocksOf (eM bc bb bv bch s n p a c)) (eM bc bb bv bch (emit1 s) (n + 1) (some ⟨bb, 0, none⟩) x.1 x.2) w' := by
 have h13' : 2 ^ s.h ≤ 2 ^ 13 := Nat.pow_le_pow_right (by decide) h13
 have hq : s.v / 2 ^ (s.h - 6) < 64 := by
  rw [Nat.div_lt_iff_lt_mul (Nat.two_pow_pos _)]
  have : 64 * 2 ^ (s.h - 6) = 2 ^ s.h := by rw [show (64 : Nat) = 2 ^ 6 from rfl, ← Nat.pow_add]; congr 1; omega
  omega
 have hk7 : 2 ^ (s.h - 6) ≤ 2 ^ 7 := Nat.pow_le_pow_right (by decide) (by omega)
 have hr := Nat.mod_lt s.v (Nat.two_pow_pos (s.h - 6))
 refine aJ (n := 18) (W := (blocksOf (eM bc bb bv bch s n p a c))) (m := (eM bc bb bv bch s n p a c)) Tryz.func157 O Tryz.ntmps157 O hm ?_
 simp only [SL.enum, Nat.reduceAdd]
 refine ah fun K1 hK1 => aj (aa O O O (by first | exact al 0 O O O O (by kernel_rfl) | exact al 1 O O O O (by kernel_rfl) | exact al 2 O O O O (by kernel_rfl) | exact al 3 O O O O (by kernel_rfl) | exact al 4 O O O O (by kernel_rfl)) ?_)
 refine aa O O O (bU (r := ((s.h - 6 : Nat) : Int)) O O O (by omega) (by omega) (by omega)) ?_
 refine am O (by first | exact ap (k := 1) 0 [SL.Seg.one _ rfl] O O O O O O (by kernel_rfl) O O | exact ap (k := 1) 1 [SL.Seg.one _ rfl] O O O O O O (by kernel_rfl) O O | exact ap (k := 1) 2 [SL.Seg.one _ rfl] O O O O O O (by kernel_rfl) O O | exact ap (k := 1) 3 [SL.Seg.one _ rfl] O O O O O O (by kernel_rfl) O O | exact ap (k := 1) 4 [SL.Seg.one _ rfl] O O O O O O (by kernel_rfl) O O) ?_
 intro _ _
 try simp only [setN, putD, selM, nth, cw, cx]
 refine ai (ae ?_)
 refine hK1 _ _ (ah fun K2 hK2 => ?_)
 refine aj (aa O O O (by first | exact al 0 O O O O (by kernel_rfl) | exact al 1 O O O O (by kernel_rfl) | exact al 2 O O O O (by kernel_rfl) | exact al 3 O O O O (by kernel_rfl) | exact al 4 O O O O (by kernel_rfl)) ?_)
 refine aa O O O (by first | exact al 0 O O O O (by kernel_rfl) | exact al 1 O O O O (by kernel_rfl) | exact al 2 O O O O (by kernel_rfl) | exact al 3 O O O O (by kernel_rfl) | exact al 4 O O O O (by kernel_rfl)) ?_
 refine aa O O O (cu (r := ((s.v / 2 ^ (s.h - 6) : Nat) : Int)) O O O (by omega) (SL.fdiv_pow _ _ (by omega) _ O)) ?_
 refine aa O O O (cr (r := ((s.v / 2 ^ (s.h - 6) : Nat) : Int)) O O O (by have := SL.and_mask (s.v / 2 ^ (s.h - 6)) 6 (by omega) (by decide); rw [Nat.mod_eq_of_lt (show s.v / 2 ^ (s.h - 6) < 2 ^ 6 from hq)] at this; exact this)) ?_
 refine aa O O O (bR (off' := s.v / 2 ^ (s.h - 6)) (sz := 1) O O O Tryz.underlying199 (by kernel_rfl) (Int.natCast_nonneg _) (Int.ofNat_lt.2 hq) (by rw [Int.toNat_natCast, Nat.mul_one, Nat.zero_add])) ?_
 refine aa O O O (ce 4 O O O (cn A64B hq) (by kernel_rfl)) ?_
 refine am O (aM [1, 2] [0, 3, 4] O O (by kernel_rfl) O O O O (fun w hM hK => bld_wbyte bb TBld [] [] O p a n c s.o (a64 (s.v / 2 ^ (s.h - 6))) hbo hok (by omega) w (blies _ _ _) (hM.sel [1, 2] O).own)) ?_
 intro ⟨a', c'⟩ hv'
 try simp only [setN, putD, selM, nth, cw, cx]
 refine ai (ae ?_)
 refine hK2 _ _ (bX 5 mixed (by kernel_rfl) O O (fun wd2 => ?_))
 refine aD O O O (by first | exact al 0 O O O O (by kernel_rfl) | exact al 1 O O O O (by kernel_rfl) | exact al 2 O O O O (by kernel_rfl) | exact al 3 O O O O (by kernel_rfl) | exact al 4 O O O O (by kernel_rfl)) ?_
 refine aD O O O (by first | exact al 0 O O O O (by kernel_rfl) | exact al 1 O O O O (by kernel_rfl) | exact al 2 O O O O (by kernel_rfl) | exact al 3 O O O O (by kernel_rfl) | exact al 4 O O O O (by kernel_rfl)) ?_
 refine aD O O O (cv (r := ((2 ^ (s.h - 6) : Nat) : Int)) O O O (by omega) (by have := SL.shl_pow 1 (s.h - 6) (by omega) (by omega); rw [Nat.one_mul] at this; exact this)) ?_
 refine aD O O O (bU (r := ((2 ^ (s.h - 6) - 1 : Nat) : Int)) O O O (by have := Nat.two_pow_pos (s.h - 6); omega) (by omega) (by omega)) ?_
 refine aD O O O (cr (r := ((s.v % 2 ^ (s.h - 6) : Nat) : Int)) O O O (SL.and_mask _ _ (by omega) (by omega))) ?_
 refine bV (am O (by first | exact ap (k := 1) 0 [SL.Seg.one _ rfl] O O O O O O (by kernel_rfl) O O | exact ap (k := 1) 1 [SL.Seg.one _ rfl] O O O O O O (by kernel_rfl) O O | exact ap (k := 1) 2 [SL.Seg.one _ rfl] O O O O O O (by kernel_rfl) O O | exact ap (k := 1) 3 [SL.Seg.one _ rfl] O O O O O O (by kernel_rfl) O O | exact ap (k := 1) 4 [SL.Seg.one _ rfl] O O O O O O (by kernel_rfl) O O) ?_)
 intro _ _
 try simp only [setN, putD, selM, nth, cw, cx]
 refine ai (ci (fun _ _ h => h) (ar O .nil O) (fun w' hM' hK' => ?_))
 exact ⟨(a', c'), hv', rfl, hK', hM'.sel [2, 0, 1, 3, 4] rfl⟩

theorem or8 (v c : Nat) (hv : v < 2 ^ 20) (hc : c < 256) : IntKind.i64.wrap (BitVec.ofInt IntKind.i64.bits ((v * 2 ^ 8 : Nat) : Int) ||| BitVec.ofInt IntKind.i64.bits (c : Int)).toNat = ((v * 2 ^ 8 + c : Nat) : Int) := by
 have e : (BitVec.ofInt 64 ((v * 2 ^ 8 : Nat) : Int) ||| BitVec.ofInt 64 (c : Int)).toNat = v * 2 ^ 8 + c := by
  rw [BitVec.toNat_or, BitVec.toNat_ofInt, BitVec.toNat_ofInt]
  have h1 : (((v * 2 ^ 8 : Nat) : Int) % ((2 ^ 64 : Nat) : Int)).toNat = v * 2 ^ 8 := by omega
  have h2 : ((c : Int) % ((2 ^ 64 : Nat) : Int)).toNat = c := by omega
  rw [h1, h2, Nat.mul_comm v, Nat.two_pow_add_eq_or_of_lt (show c < 2 ^ 8 from hc)]
 show IntKind.i64.wrap ((BitVec.ofInt 64 ((v * 2 ^ 8 : Nat) : Int) ||| BitVec.ofInt 64 (c : Int)).toNat : Int) = _
 rw [e, IntKind.wrap_i64]
 omega
theorem v_step {v h c : Nat} (hv : v < 2 ^ h) (hc : c < 256) : v * 2 ^ 8 + c < 2 ^ (h + 8) := by
 rw [Nat.pow_add]
 have : (v + 1) * 2 ^ 8 ≤ 2 ^ h * 2 ^ 8 := Nat.mul_le_mul_right _ hv
 omega

theorem encode_c (x : List UInt8) (a : Option Addr) (len cap : Nat) (hl : x.length ≤ 100000) (w : World) (hR : RC 1 w a len (bytesV x)) :
  Calls Tryz.prog 133 [.slice a len cap].toArray w fun e w' => e = .returned (str (b64 x)) ∧ Keeps none1 w w' := by
 obtain ⟨h1, h2, h3⟩ := hR
 have hl1 : x.length = len := by rw [bytesV_length] at h1; omega
 subst hl1
 refine aJ (n := 43) (W := SL.none1) (m := []) Tryz.func133 O Tryz.ntmps133 O (aO _ _ _) ?_
 simp only [SL.enum, Nat.reduceAdd]
 refine ah fun K1 hK1 => aj (aa O O O (ak O O) ?_)
 refine ai (ae ?_)
 refine hK1 _ _ (ah fun K2 hK2 => ?_)
 refine aj (am O (aN O O (by kernel_rfl) O O (fun w hM hK => alphabet_c w)) ?_)
 intro _ _
 try simp only [setN, putD, selM, nth, cw, cx]
 refine am O (aX [(B.zero 64).seg] O O O (by kernel_rfl)) ?_
 intro b3 _
 try simp only [setN, putD, selM, nth, cw, cx]
 refine am O (by first | exact ap (k := 64) 0 _ O O O O O O (by kernel_rfl) O O) ?_
 intro _ _
 try simp only [setN, putD, selM, nth, cw, cx]
 refine ai (ae ?_)
 refine hK2 _ _ (ah fun K3 hK3 => ?_)
 refine aj (am O (aX [Seg.one (.pointer none) rfl, Seg.one (.slice none 0 0) rfl] O O O (by kernel_rfl)) ?_)
 intro b4 _
 try simp only [setN, putD, selM, nth, cw, cx]
 refine ai (ae ?_)
 refine hK3 _ _ (ah fun K4 hK4 => ?_)
 refine aj (am O (aX [Seg.one (.int .i64 0) rfl] O O O (by kernel_rfl)) ?_)
 intro b5 _
 try simp only [setN, putD, selM, nth, cw, cx]
 refine am O (aX [Seg.one (.int .i64 0) rfl] O O O (by kernel_rfl)) ?_
 intro b6 _
 try simp only [setN, putD, selM, nth, cw, cx]
 refine am O (by first | exact ap (k := 1) 0 [SL.Seg.one _ rfl] O O O O O O (by kernel_rfl) O O | exact ap (k := 1) 1 [SL.Seg.one _ rfl] O O O O O O (by kernel_rfl) O O | exact ap (k := 1) 2 [SL.Seg.one _ rfl] O O O O O O (by kernel_rfl) O O | exact ap (k := 1) 3 [SL.Seg.one _ rfl] O O O O O O (by kernel_rfl) O O) ?_
 intro _ _
 try simp only [setN, putD, selM, nth, cw, cx]
 refine am O (by first | exact ap (k := 1) 0 [SL.Seg.one _ rfl] O O O O O O (by kernel_rfl) O O | exact ap (k := 1) 1 [SL.Seg.one _ rfl] O O O O O O (by kernel_rfl) O O | exact ap (k := 1) 2 [SL.Seg.one _ rfl] O O O O O O (by kernel_rfl) O O | exact ap (k := 1) 3 [SL.Seg.one _ rfl] O O O O O O (by kernel_rfl) O O) ?_
 intro _ _
 try simp only [setN, putD, selM, nth, cw, cx]
 refine ai (SL.Ok.nilRow 5 1 ?_)
 refine ae (hK4 _ _ ?_)
 refine ah fun K5 hK5 => aj (aa O O O (SL.Pure.makeFuncC O O) ?_)
 refine aa O O O (ak O O) (ai ?_)
 refine ae (hK5 _ _ ?_)
 refine ah fun K6 hK6 => ah fun K7 hK7 => aj (aa O O O (af O O) ?_)
 refine aa O O O (bw O O O Tryz.underlying52) (aa O O O (af O O) ?_)
 refine ai (ae ?_)
 refine hK7 _ _ (aK ?_)
 refine bu (X := (Nat × Option Addr × Option Addr × Nat)) (φ := fun X => X.1 ≤ x.length ∧ bldOk b4 [] X.2.1 ∧ okV (.slice X.2.2.1 (bys x X.1).o.length X.2.2.2)) (L := fun X => [(3, .pointer (some ⟨b3, 0, none⟩)), (4, .pointer (some ⟨b4, 0, none⟩)), (5, .pointer (some ⟨b5, 0, none⟩)), (6, .pointer (some ⟨b6, 0, none⟩)), (7, .func (.func 157) #[] [.pointer (some ⟨b6, 0, none⟩), .pointer (some ⟨b4, 0, none⟩), .pointer (some ⟨b3, 0, none⟩), .pointer (some ⟨b5, 0, none⟩)].toArray), (12, .slice a x.length cap), (13, .int .i64 x.length), (14, .int .i64 X.1)]) (M := fun X => eM b6 b4 b5 b3 (bys x X.1) (bys x X.1).o.length X.2.1 X.2.2.1 X.2.2.2) (μ := fun X => x.length - X.1) ?_ ?_
 ·
  exact fun _ _ st => ⟨(0, none, none, 0), ⟨Nat.zero_le _, .inl rfl, trivial⟩, st.to [1, 3, 0, 2, 4] ⟨rfl, rfl, rfl, rfl, rfl, rfl, rfl, rfl, trivial⟩ O rfl⟩
 ·
  intro ⟨i, p, ga, gc⟩ ⟨hi, hbo, hok⟩
  try dsimp only
  dsimp only at hi hbo hok
  have hb := bys_ok x i
  refine ah fun K8 hK8 => aj (aa O O O (aT O O O) ?_)
  refine ai (ae ?_)
  refine hK8 _ _ (ah fun K9 hK9 => ?_)
  refine aH O (fun hc15 => ?_) (fun hc15 => ?_)
  ·
   have hlt : i < x.length := by simp at hc15; omega
   rcases h3 with h3 | ⟨rb, roff, rfl, hrb, hrc⟩
   ·
    omega
   have hcell := hrc i _ (show (bytesV x)[i]? = some (.int .u8 (x.getD i 0).toNat) by simp [bytesV, hlt])
   have hv := v32 hb
   have hu := (x.getD i 0).toNat_lt
   have hol := hb.2.2
   have hh5 := hb.1
   refine aC (ae ?_)
   refine hK9 _ _ (ah fun K10 hK10 => ?_)
   refine aK (ah fun K11 hK11 => ?_)
   refine aj (aa O O O (bx (sz := 1) (k := x.length) (off' := roff + i) O O O Tryz.underlying52 (by kernel_rfl) (by omega) (by omega) (by omega)) ?_)
   refine aa O O O (cj hrb (fun h => h) hcell O O (by kernel_rfl)) ?_
   refine aa O O O (ak O O) (ai ?_)
   refine ae (hK11 _ _ ?_)
   refine ah fun K12 hK12 => cq (X := Unit) (φ := fun _ => True) (L := fun _ => [(3, .pointer (some ⟨b3, 0, none⟩)), (4, .pointer (some ⟨b4, 0, none⟩)), (5, .pointer (some ⟨b5, 0, none⟩)), (6, .pointer (some ⟨b6, 0, none⟩)), (7, .func (.func 157) #[] [.pointer (some ⟨b6, 0, none⟩), .pointer (some ⟨b4, 0, none⟩), .pointer (some ⟨b3, 0, none⟩), .pointer (some ⟨b5, 0, none⟩)].toArray), (12, .slice (some ⟨rb, roff, none⟩) x.length cap), (13, .int .i64 x.length), (14, .int .i64 i)]) (M := fun _ => eM b6 b4 b5 b3 ⟨(bys x i).o, (bys x i).v * 2 ^ 8 + (x.getD i 0).toNat, (bys x i).h + 8⟩ (bys x i).o.length p ga gc) ?_ (fun hJa8 => ?_)
   ·
    intro _ _
    try dsimp only
    refine ae (hK12 _ _ ?_)
    refine aK (bu (X := (Nat × BS × Nat × Option Addr × Option Addr × Nat)) (φ := fun X => fin6 X.1 X.2.1 = bys x (i + 1) ∧ X.2.1.h < 6 * (X.1 + 1) ∧ X.2.1.v < 2 ^ X.2.1.h ∧ X.2.1.h ≤ 13 ∧ X.2.2.1 = X.2.1.o.length ∧ X.2.2.1 + X.1 ≤ 8 * i + 2 ∧ bldOk b4 [] X.2.2.2.1 ∧ okV (.slice X.2.2.2.2.1 X.2.2.1 X.2.2.2.2.2)) (L := fun X => [(3, .pointer (some ⟨b3, 0, none⟩)), (4, .pointer (some ⟨b4, 0, none⟩)), (5, .pointer (some ⟨b5, 0, none⟩)), (6, .pointer (some ⟨b6, 0, none⟩)), (7, .func (.func 157) #[] [.pointer (some ⟨b6, 0, none⟩), .pointer (some ⟨b4, 0, none⟩), .pointer (some ⟨b3, 0, none⟩), .pointer (some ⟨b5, 0, none⟩)].toArray), (12, .slice (some ⟨rb, roff, none⟩) x.length cap), (13, .int .i64 x.length), (14, .int .i64 i)]) (M := fun X => eM b6 b4 b5 b3 X.2.1 X.2.2.1 X.2.2.2.1 X.2.2.2.2.1 X.2.2.2.2.2) (μ := fun X => X.1) ?_ ?_)
    ·
     exact fun _ _ st => ⟨(2, ⟨(bys x i).o, (bys x i).v * 2 ^ 8 + (x.getD i 0).toNat, (bys x i).h + 8⟩, (bys x i).o.length, p, ga, gc), ⟨fin6_byt (bys x i) _ hb _, show (bys x i).h + 8 < 6 * (2 + 1) by omega, v_step hb.2.1 hu, show (bys x i).h + 8 ≤ 13 by omega, rfl, show (bys x i).o.length + 2 ≤ 8 * i + 2 by omega, hbo, hok⟩, st.to [0, 1, 2, 3, 4] ⟨rfl, rfl, rfl, rfl, rfl, rfl, rfl, rfl, trivial⟩ O rfl⟩
    ·
     intro ⟨k, s, ns, ps, gs, cs⟩ ⟨hfin, hk6, hsv, hs13, hns, hnk, hsb, hso⟩
     try dsimp only
     dsimp only at hfin hk6 hsv hs13 hns hnk hsb hso
     refine ah fun K13 hK13 => ah fun K14 hK14 => aj (aa O O O (by first | exact al 0 O O O O (by kernel_rfl) | exact al 1 O O O O (by kernel_rfl) | exact al 2 O O O O (by kernel_rfl) | exact al 3 O O O O (by kernel_rfl) | exact al 4 O O O O (by kernel_rfl)) ?_)
     refine aa O O O (bB O O O) (ai ?_)
     refine ae (hK14 _ _ ?_)
     refine aH O (fun hc26 => ?_) (fun hc26 => ?_)
     ·
      have hs6 : 6 ≤ s.h := by simp at hc26; omega
      obtain ⟨k, rfl⟩ : ∃ k', k = k' + 1 := ⟨k - 1, by omega⟩
      have hfin' : fin6 k (emit1 s) = bys x (i + 1) := by rw [← hfin]; show _ = (if 6 ≤ s.h then fin6 k (emit1 s) else s); rw [if_pos hs6]
      refine aC (ae ?_)
      refine hK13 _ _ (aK ?_)
      refine aj (aa O O O (af O O) ?_)
      refine am O (by exact SL.Eff.callFn (first := []) (cap := [.pointer (some ⟨b6, 0, none⟩), .pointer (some ⟨b4, 0, none⟩), .pointer (some ⟨b3, 0, none⟩), .pointer (some ⟨b5, 0, none⟩)]) [0, 1, 2, 3, 4] [] O O (by kernel_rfl) O O O O (fun w hM hK => emit_c b6 b4 b5 b3 s ns ps gs cs hs6 hs13 hsv (by omega) hsb hso w (hM.sel [0, 1, 2, 3, 4] O).own)) ?_
      intro ⟨a', c'⟩ hv'
      try simp only [setN, putD, selM, nth, cw, cx]
      refine ai (aQ ?_)
      refine ae ?_
      exact bd (k, emit1 s, ns + 1, some ⟨b4, 0, none⟩, a', c') [0, 1, 2, 3, 4] ⟨hfin', show s.h - 6 < 6 * (k + 1) by omega, Nat.mod_lt _ (Nat.two_pow_pos _), show s.h - 6 ≤ 13 by omega, by simp only [emit1, List.length_append, List.length_singleton]; omega, show ns + 1 + k ≤ 8 * i + 2 by omega, .inr rfl, hv'⟩ (show k < k + 1 by omega) ⟨rfl, rfl, rfl, rfl, rfl, rfl, rfl, rfl, trivial⟩ O rfl
     ·
      have hs6 : ¬ 6 ≤ s.h := by simp at hc26; omega
      have hse : s = bys x (i + 1) := by
       rw [← hfin]
       cases k with
       | zero => rfl
       | succ k => show s = (if 6 ≤ s.h then fin6 k (emit1 s) else s); rw [if_neg hs6]
      subst hse hns
      refine aU (aI ?_)
      refine aI (aV ?_)
      refine aQ (ae ?_)
      refine hK10 _ _ (aj ?_)
      refine aa O O O (aL O O O O (by omega) (by omega)) ?_
      refine aa O O O (af O O) (ai ?_)
      refine ae ?_
      exact bd (i + 1, ps, gs, cs) [0, 1, 2, 3, 4] ⟨show i + 1 ≤ x.length by omega, hsb, hso⟩ (show x.length - (i + 1) < x.length - i by omega) ⟨rfl, rfl, rfl, rfl, rfl, rfl, rfl, rfl, trivial⟩ O rfl
   refine ck [1, 2, 4] mixed O O ?_
   simp only [List.replicate, List.length_cons, List.length_nil, Nat.reduceAdd, SL.selM, SL.nth]
   refine aG 2 O O O O (by kernel_rfl) (by kernel_rfl) (by kernel_rfl) O (fun _ _ _ h => h) [1, 2, 4] O O (af O O) ?_
   refine aG 3 O O O O (by kernel_rfl) (by kernel_rfl) (by kernel_rfl) O (fun _ _ _ h => h) [1, 2, 4] O O (SL.Pure.conv8I O O (by kernel_rfl) Tryz.underlying3) ?_
   refine SL.OkH.eff2 0 5 O O O O (by kernel_rfl) O O [1, 2, 4] (fun _ => rfl) O (bZ O O (by first | exact al 0 O O O O (by kernel_rfl) | exact al 1 O O O O (by kernel_rfl) | exact al 2 O O O O (by kernel_rfl) | exact al 3 O O O O (by kernel_rfl) | exact al 4 O O O O (by kernel_rfl))) [1, 2, 4] (fun _ => rfl) O (bZ O O (by first | exact al 0 O O O O (by kernel_rfl) | exact al 1 O O O O (by kernel_rfl) | exact al 2 O O O O (by kernel_rfl) | exact al 3 O O O O (by kernel_rfl) | exact al 4 O O O O (by kernel_rfl))) ?_ ?_
   ·
    intro _ _
    try simp only [setN, putD, selM, nth, cw, cx]
    refine aG 1 O O O O (by kernel_rfl) (by kernel_rfl) (by kernel_rfl) O (fun _ _ _ h => h) [1, 2, 4] O O (cv (r := (((bys x i).v * 2 ^ 8 : Nat) : Int)) O O O (by decide) (SL.shl_pow _ 8 (by decide) (by omega))) ?_
    refine aG 4 O O O O (by kernel_rfl) (by kernel_rfl) (by kernel_rfl) O (fun _ _ _ h => h) [1, 2, 4] O O (SL.Pure.or (r := (((bys x i).v * 2 ^ 8 + (x.getD i 0).toNat : Nat) : Int)) O O O (or8 _ _ (by omega) hu)) ?_
    refine SL.OkH.eff2 5 7 O O O O (by kernel_rfl) O O [1, 2, 4] (fun _ => rfl) O (bZ O O (by first | exact al 0 O O O O (by kernel_rfl) | exact al 1 O O O O (by kernel_rfl) | exact al 2 O O O O (by kernel_rfl) | exact al 3 O O O O (by kernel_rfl) | exact al 4 O O O O (by kernel_rfl))) [1, 2, 4] (fun _ => rfl) O (by first | exact ap (k := 1) 0 [SL.Seg.one _ rfl] O O O O O O (by kernel_rfl) O O | exact ap (k := 1) 1 [SL.Seg.one _ rfl] O O O O O O (by kernel_rfl) O O | exact ap (k := 1) 2 [SL.Seg.one _ rfl] O O O O O O (by kernel_rfl) O O | exact ap (k := 1) 3 [SL.Seg.one _ rfl] O O O O O O (by kernel_rfl) O O | exact ap (k := 1) 4 [SL.Seg.one _ rfl] O O O O O O (by kernel_rfl) O O) ?_ ?_
    ·
     intro _ _
     try simp only [setN, putD, selM, nth, cw, cx]
     refine aG 6 O O O O (by kernel_rfl) (by kernel_rfl) (by kernel_rfl) O (fun _ _ _ h => h) [1, 2, 4] O O (aL (r := (((bys x i).h + 8 : Nat) : Int)) O O O (by omega) (by omega) (by omega)) ?_
     refine aY 7 O O (by kernel_rfl) O [1, 2, 4] (fun _ => rfl) O (by first | exact ap (k := 1) 0 [SL.Seg.one _ rfl] O O O O O O (by kernel_rfl) O O | exact ap (k := 1) 1 [SL.Seg.one _ rfl] O O O O O O (by kernel_rfl) O O | exact ap (k := 1) 2 [SL.Seg.one _ rfl] O O O O O O (by kernel_rfl) O O | exact ap (k := 1) 3 [SL.Seg.one _ rfl] O O O O O O (by kernel_rfl) O O | exact ap (k := 1) 4 [SL.Seg.one _ rfl] O O O O O O (by kernel_rfl) O O) ?_
     intro _ _
     try simp only [setN, putD, selM, nth, cw, cx]
     refine aY 8 O O (by kernel_rfl) O [1, 2, 4] (fun _ => rfl) O (by first | exact ap (k := 1) 0 [SL.Seg.one _ rfl] O O O O O O (by kernel_rfl) O O | exact ap (k := 1) 1 [SL.Seg.one _ rfl] O O O O O O (by kernel_rfl) O O | exact ap (k := 1) 2 [SL.Seg.one _ rfl] O O O O O O (by kernel_rfl) O O | exact ap (k := 1) 3 [SL.Seg.one _ rfl] O O O O O O (by kernel_rfl) O O | exact ap (k := 1) 4 [SL.Seg.one _ rfl] O O O O O O (by kernel_rfl) O O) ?_
     intro _ _
     try simp only [setN, putD, selM, nth, cw, cx]
     refine bN (by kernel_rfl) ?_
     exact bI (hJa8 () trivial) [0, 1, 2, 3, 4] ⟨rfl, rfl, rfl, rfl, rfl, rfl, rfl, rfl, trivial⟩ O rfl
    ·
     intro _ _
     try simp only [setN, putD, selM, nth, cw, cx]
     refine aY 5 O O (by kernel_rfl) O [1, 2, 4] (fun _ => rfl) O (bZ O O (by first | exact al 0 O O O O (by kernel_rfl) | exact al 1 O O O O (by kernel_rfl) | exact al 2 O O O O (by kernel_rfl) | exact al 3 O O O O (by kernel_rfl) | exact al 4 O O O O (by kernel_rfl))) ?_
     intro _ _
     refine aG 6 O O O O (by kernel_rfl) (by kernel_rfl) (by kernel_rfl) O (fun _ _ _ h => h) [1, 2, 4] O O (aL (r := (((bys x i).h + 8 : Nat) : Int)) O O O (by omega) (by omega) (by omega)) ?_
     refine aY 8 O O (by kernel_rfl) O [1, 2, 4] (fun _ => rfl) O (by first | exact ap (k := 1) 0 [SL.Seg.one _ rfl] O O O O O O (by kernel_rfl) O O | exact ap (k := 1) 1 [SL.Seg.one _ rfl] O O O O O O (by kernel_rfl) O O | exact ap (k := 1) 2 [SL.Seg.one _ rfl] O O O O O O (by kernel_rfl) O O | exact ap (k := 1) 3 [SL.Seg.one _ rfl] O O O O O O (by kernel_rfl) O O | exact ap (k := 1) 4 [SL.Seg.one _ rfl] O O O O O O (by kernel_rfl) O O) ?_
     intro _ _
     try simp only [setN, putD, selM, nth, cw, cx]
     refine bN (by kernel_rfl) ?_
     exact bI (hJa8 () trivial) [0, 1, 2, 3, 4] ⟨rfl, rfl, rfl, rfl, rfl, rfl, rfl, rfl, trivial⟩ O rfl
   ·
    intro _ _
    try simp only [setN, putD, selM, nth, cw, cx]
    refine aG 6 O O O O (by kernel_rfl) (by kernel_rfl) (by kernel_rfl) O (fun _ _ _ h => h) [1, 2, 4] O O (aL (r := (((bys x i).h + 8 : Nat) : Int)) O O O (by omega) (by omega) (by omega)) ?_
    refine aY 0 O O (by kernel_rfl) O [1, 2, 4] (fun _ => rfl) O (bZ O O (by first | exact al 0 O O O O (by kernel_rfl) | exact al 1 O O O O (by kernel_rfl) | exact al 2 O O O O (by kernel_rfl) | exact al 3 O O O O (by kernel_rfl) | exact al 4 O O O O (by kernel_rfl))) ?_
    intro _ _
    refine aG 1 O O O O (by kernel_rfl) (by kernel_rfl) (by kernel_rfl) O (fun _ _ _ h => h) [1, 2, 4] O O (cv (r := (((bys x i).v * 2 ^ 8 : Nat) : Int)) O O O (by decide) (SL.shl_pow _ 8 (by decide) (by omega))) ?_
    refine aG 4 O O O O (by kernel_rfl) (by kernel_rfl) (by kernel_rfl) O (fun _ _ _ h => h) [1, 2, 4] O O (SL.Pure.or (r := (((bys x i).v * 2 ^ 8 + (x.getD i 0).toNat : Nat) : Int)) O O O (or8 _ _ (by omega) hu)) ?_
    refine aY 7 O O (by kernel_rfl) O [1, 2, 4] (fun _ => rfl) O (by first | exact ap (k := 1) 0 [SL.Seg.one _ rfl] O O O O O O (by kernel_rfl) O O | exact ap (k := 1) 1 [SL.Seg.one _ rfl] O O O O O O (by kernel_rfl) O O | exact ap (k := 1) 2 [SL.Seg.one _ rfl] O O O O O O (by kernel_rfl) O O | exact ap (k := 1) 3 [SL.Seg.one _ rfl] O O O O O O (by kernel_rfl) O O | exact ap (k := 1) 4 [SL.Seg.one _ rfl] O O O O O O (by kernel_rfl) O O) ?_
    intro _ _
    try simp only [setN, putD, selM, nth, cw, cx]
    refine aY 8 O O (by kernel_rfl) O [1, 2, 4] (fun _ => rfl) O (by first | exact ap (k := 1) 0 [SL.Seg.one _ rfl] O O O O O O (by kernel_rfl) O O | exact ap (k := 1) 1 [SL.Seg.one _ rfl] O O O O O O (by kernel_rfl) O O | exact ap (k := 1) 2 [SL.Seg.one _ rfl] O O O O O O (by kernel_rfl) O O | exact ap (k := 1) 3 [SL.Seg.one _ rfl] O O O O O O (by kernel_rfl) O O | exact ap (k := 1) 4 [SL.Seg.one _ rfl] O O O O O O (by kernel_rfl) O O) ?_
    intro _ _
    try simp only [setN, putD, selM, nth, cw, cx]
    refine bN (by kernel_rfl) ?_
    exact bI (hJa8 () trivial) [0, 1, 2, 3, 4] ⟨rfl, rfl, rfl, rfl, rfl, rfl, rfl, rfl, trivial⟩ O rfl
  ·
   have hie : i = x.length := by simp at hc15; omega
   subst hie
   have hol := hb.2.2
   have hs1 := hb.1
   have hs2 := hb.2.1
   generalize hsv : bys x x.length = sv at *
   refine aU (aI ?_)
   refine aI (aV ?_)
   refine ae (hK6 _ _ ?_)
   refine ah fun K15 hK15 => ah fun K16 hK16 => aj (aa O O O (by first | exact al 0 O O O O (by kernel_rfl) | exact al 1 O O O O (by kernel_rfl) | exact al 2 O O O O (by kernel_rfl) | exact al 3 O O O O (by kernel_rfl) | exact al 4 O O O O (by kernel_rfl)) ?_)
   refine aa O O O (bH O O O) (ai ?_)
   refine ae (hK16 _ _ ?_)
   refine cq (X := (Option Addr × Option Addr × Nat)) (φ := fun X => bldOk b4 [] X.1 ∧ okV (.slice X.2.1 (fin64 sv).length X.2.2)) (L := fun X => [(4, .pointer (some ⟨b4, 0, none⟩))]) (M := fun X => [.blk b4 (bldO X.1 X.2.1 (fin64 sv).length X.2.2), rowB X.2.1 (fin64 sv).length X.2.2 (fin64 sv)]) ?_ (fun hJc31 => ?_)
   ·
    intro ⟨p', ga', gc'⟩ ⟨hbo', hok'⟩
    try dsimp only
    refine ae (hK15 _ _ ?_)
    refine ah fun K17 hK17 => aK (bu (X := (Nat × Option Addr × Option Addr × Nat)) (φ := fun X => X.1 ≤ (4 - (fin64 sv).length % 4) % 4 ∧ bldOk b4 [] X.2.1 ∧ okV (.slice X.2.2.1 ((fin64 sv).length + X.1) X.2.2.2)) (L := fun X => [(4, .pointer (some ⟨b4, 0, none⟩))]) (M := fun X => [.blk b4 (bldO X.2.1 X.2.2.1 ((fin64 sv).length + X.1) X.2.2.2), rowB X.2.2.1 ((fin64 sv).length + X.1) X.2.2.2 (padq (fin64 sv) X.1)]) (μ := fun X => 4 - X.1) ?_ ?_)
    ·
     exact fun _ _ st => ⟨(0, p', ga', gc'), ⟨Nat.zero_le _, hbo', hok'⟩, st.to [0, 1] ⟨rfl, trivial⟩ (by simp only [padq, List.replicate_zero, List.append_nil]; rfl) rfl⟩
    ·
     intro ⟨k, p2, ga2, gc2⟩ ⟨hk, hbo2, hok2⟩
     try dsimp only
     dsimp only at hk hbo2 hok2
     have hpl : (padq (fin64 sv) k).length = (fin64 sv).length + k := by simp [padq]
     have hfl2 : (fin64 sv).length ≤ sv.o.length + 1 := by unfold fin64; split <;> simp
     refine ah fun K18 hK18 => ah fun K19 hK19 => aj (am O (aN O O (by kernel_rfl) O O (fun w hM hK => bld_len b4 TBld (0, 0) [] [] p2 ga2 ((fin64 sv).length + k) gc2 w (SL.Mem.blk (i := 0) O hM))) ?_)
     intro _ _
     try simp only [setN, putD, selM, nth, cw, cx]
     refine aa O O O (SL.Pure.remI O O O (by omega) (by omega) (by omega)) ?_
     refine aa O O O (bl O O O) (ai ?_)
     refine ae (hK19 _ _ ?_)
     refine aH O (fun hc40 => ?_) (fun hc40 => ?_)
     ·
      have hk4 : k < (4 - (fin64 sv).length % 4) % 4 := by simp at hc40; omega
      have hps : padq (fin64 sv) k ++ [61] = padq (fin64 sv) (k + 1) := by simp [padq, List.replicate_succ']
      refine aC (ae ?_)
      refine hK18 _ _ (aK ?_)
      refine aj (am O (aM [0, 1] [] O O (by kernel_rfl) O O O O (fun w hM hK => bld_wbyte b4 TBld [] [] O p2 ga2 ((fin64 sv).length + k) gc2 (padq (fin64 sv) k) 61 hbo2 hok2 (by omega) w (blies _ _ _) (hM.sel [0, 1] O).own)) ?_)
      intro ⟨a', c'⟩ hv'
      try simp only [setN, putD, selM, nth, cw, cx]
      simp only [hps]
      refine ai (aQ ?_)
      refine ae ?_
      exact bd (k + 1, some ⟨b4, 0, none⟩, a', c') [0, 1] ⟨show k + 1 ≤ (4 - (fin64 sv).length % 4) % 4 by omega, .inr rfl, hv'⟩ (show 4 - (k + 1) < 4 - k by omega) ⟨rfl, trivial⟩ O rfl
     ·
      have hk4 : k = (4 - (fin64 sv).length % 4) % 4 := by simp at hc40; omega
      rw [← hpl] at hok2
      simp only [← hpl]
      refine aU (aI ?_)
      refine aI (aV ?_)
      refine ae (hK17 _ _ ?_)
      refine ah fun K20 hK20 => aj (am O (aM [0, 1] [] O O (by kernel_rfl) O O O O (fun w hM hK => bld_string b4 _ _ [] [] p2 ga2 gc2 (padq (fin64 sv) k) hok2 w (hM.sel [0, 1] O).own)) ?_)
      intro _ _
      try simp only [setN, putD, selM, nth, cw, cx]
      refine aa O O O (ak O O) (ai ?_)
      refine ae (hK20 _ _ ?_)
      refine aw av (ar O (.cons (.tmp O) .nil) O) (fun w' hM' hK' => ?_)
      exact ⟨by rw [b64, hsv, ← hk4]; rfl, hK'⟩
   refine aH O (fun hc31 => ?_) (fun hc31 => ?_)
   ·
    have hh : 0 < sv.h := by simp at hc31; omega
    have hf : fin64 sv = sv.o ++ [a64 (sv.v * 2 ^ (6 - sv.h))] := by unfold fin64; rw [if_pos hh]
    have hvk : sv.v * 2 ^ (6 - sv.h) < 64 := vk_lt hs2 (by omega)
    have hfl : (fin64 sv).length = sv.o.length + 1 := by rw [hf]; simp
    refine ah fun K21 hK21 => aj (aa O O O (by first | exact al 0 O O O O (by kernel_rfl) | exact al 1 O O O O (by kernel_rfl) | exact al 2 O O O O (by kernel_rfl) | exact al 3 O O O O (by kernel_rfl) | exact al 4 O O O O (by kernel_rfl)) ?_)
    refine aa O O O (by first | exact al 0 O O O O (by kernel_rfl) | exact al 1 O O O O (by kernel_rfl) | exact al 2 O O O O (by kernel_rfl) | exact al 3 O O O O (by kernel_rfl) | exact al 4 O O O O (by kernel_rfl)) ?_
    refine aa O O O (bU (r := ((6 - sv.h : Nat) : Int)) O O O (by omega) (by omega) (by omega)) ?_
    refine aa O O O (cv (r := ((sv.v * 2 ^ (6 - sv.h) : Nat) : Int)) O O O (by omega) (SL.shl_pow _ _ (by omega) (by omega))) ?_
    refine am O (by first | exact ap (k := 1) 0 [SL.Seg.one _ rfl] O O O O O O (by kernel_rfl) O O | exact ap (k := 1) 1 [SL.Seg.one _ rfl] O O O O O O (by kernel_rfl) O O | exact ap (k := 1) 2 [SL.Seg.one _ rfl] O O O O O O (by kernel_rfl) O O | exact ap (k := 1) 3 [SL.Seg.one _ rfl] O O O O O O (by kernel_rfl) O O | exact ap (k := 1) 4 [SL.Seg.one _ rfl] O O O O O O (by kernel_rfl) O O) ?_
    intro _ _
    try simp only [setN, putD, selM, nth, cw, cx]
    refine am O (by first | exact ap (k := 1) 0 [SL.Seg.one _ rfl] O O O O O O (by kernel_rfl) O O | exact ap (k := 1) 1 [SL.Seg.one _ rfl] O O O O O O (by kernel_rfl) O O | exact ap (k := 1) 2 [SL.Seg.one _ rfl] O O O O O O (by kernel_rfl) O O | exact ap (k := 1) 3 [SL.Seg.one _ rfl] O O O O O O (by kernel_rfl) O O | exact ap (k := 1) 4 [SL.Seg.one _ rfl] O O O O O O (by kernel_rfl) O O) ?_
    intro _ _
    try simp only [setN, putD, selM, nth, cw, cx]
    refine ai (ae ?_)
    refine hK21 _ _ (aj ?_)
    refine aa O O O (af O O) (am O (by exact SL.Eff.callFn (first := []) (cap := [.pointer (some ⟨b6, 0, none⟩), .pointer (some ⟨b4, 0, none⟩), .pointer (some ⟨b3, 0, none⟩), .pointer (some ⟨b5, 0, none⟩)]) [0, 1, 2, 3, 4] [] O O (by kernel_rfl) O O O O (fun w hM hK => emit_c b6 b4 b5 b3 ⟨sv.o, sv.v * 2 ^ (6 - sv.h), 6⟩ sv.o.length p ga gc (Nat.le_refl 6) (show (6 : Nat) ≤ 13 by decide) (by exact hvk) (by omega) hbo hok w (hM.sel [0, 1, 2, 3, 4] O).own)) ?_)
    intro ⟨a', c'⟩ hv'
    try simp only [setN, putD, selM, nth, cw, cx]
    refine ai ?_
    exact bI (hJc31 (some ⟨b4, 0, none⟩, a', c') ⟨.inr rfl, by rw [hfl]; exact hv'⟩) [1, 2] ⟨rfl, trivial⟩ (by rw [hfl, hf]; simp only [emit1, Nat.sub_self, Nat.pow_zero, Nat.div_one]; rfl) rfl
   ·
    have hh : ¬ 0 < sv.h := by simp at hc31; omega
    have hf : fin64 sv = sv.o := by unfold fin64; rw [if_neg hh]
    refine aC ?_
    exact bI (hJc31 (p, ga, gc) ⟨hbo, by rw [hf]; exact hok⟩) [1, 2] ⟨rfl, trivial⟩ (by rw [hf]; rfl) rfl
end Go.Proofs.YthfhhkanpnemcaaGreatDoor
namespace Go.SL
open Go.RowKit
section
variable {P : Program} {n : Nat} {W : Nat → Prop} {w0 : World} {l : List (Nat × Value)} {m : List Res} {o : Oper}
theorem Pure.sliceArrO {x : Operand} {b off k sz : Nat} {t e : TypeId} (ho : o.op = .slice t x none none none) (hx : ev l x = some (.pointer (some ⟨b, off, none⟩))) (hu : P.underlying t = some (.array k e)) (hsz : csz P e = some sz) (hk : 0 < k) : Pure P n W w0 l m o (.slice (some ⟨b, off, none⟩) k k) :=
 fun a w st => by
  have : ¬ k = 0 := by omega
  simp [execOp, ho, st.has.ev hx, Instr.sliceAt, Instr.slice, run_underlying hu, Instr.sliceBounds, run_sizeOf hsz, Instr.sureAddr, this, Addr.add]
theorem RC.ofB1 {k : Nat} {v : Value} {hv : v.oneCell' = true} {b : B k} {w : World} {B0 : Nat} {T : TypeId} {fz : Nat × Nat} (hb : w.heap[B0]? = some (.cells (flat [Seg.one v hv, b.seg]) T fz)) (hk : k ≤ maxLen) : RC 1 w (some ⟨B0, 1, none⟩) k (bytesV b.l) := by
 refine ⟨by rw [bytesV_length, b.h]; omega, hk, .inr ⟨B0, 1, rfl, (Array.getElem?_eq_some_iff.1 hb).1, fun j x hx => ?_⟩⟩
 rw [Lib.cell_of_heap hb, ← at1_eq]
 have h1 : at1 [Seg.one v hv, b.seg] (1 + j) = at1 [b.seg] j := at1_pre [Seg.one v hv] [b.seg] j
 rw [h1, at1_eq]
 simpa [flat, B.seg, Seg.cs, byteA, bytesV] using hx
end
end Go.SL
namespace Go.Proofs.YthfhhkanpnemcaaGreatDoor
open Go.SL Go.RowKit IntWalk
set_option linter.unusedVariables false
set_option maxRecDepth 100000
set_option linter.unusedSimpArgs false
set_option maxHeartbeats 400000

def pubErr (h : Int) : Int := if h < 1 ∨ 8 < h then 2 else 0
abbrev pseg (h : Int) (r : B 16) : List Seg := [Seg.one (.int .i64 h) rfl, r.seg]

theorem height_c (h : Int) (w : World) : Calls Tryz.prog 71 [.int .i64 h].toArray w fun e w' => e = .returned (.int .i64 (pubErr h)) ∧ Keeps none1 w w' := by
 refine aJ (n := 9) (W := SL.none1) (m := []) Tryz.func71 O Tryz.ntmps71 O (aO _ _ _) ?_
 simp only [SL.enum, Nat.reduceAdd]
 refine ah fun K1 hK1 => aj (aa O O O (ak O O) ?_)
 refine ai (ae ?_)
 refine hK1 _ _ (ah fun K2 hK2 => ?_)
 refine ah fun K3 hK3 => aj (aa O O O (af O O) ?_)
 refine aa O O O (aT O O O) (aa O O O (af O O) ?_)
 refine aR (d := 5) O (fun hg5 => ?_) (fun hg5 => ?_)
 ·
  have h1 : h < 1 := by simpa using hg5
  refine ag O O O O O O O (ag O O O O O O O ?_)
  refine aa O O O (aF O O O) (ai ?_)
  refine ae (hK3 _ _ ?_)
  refine bk O (ah fun K4 hK4 => ?_)
  refine aj (aa O O O (ak O O) ?_)
  refine ai (ae ?_)
  refine hK4 _ _ (aw (aB av) (ar O (.cons (.tmp O) .nil) O) (fun w' hM' hK' => ?_))
  exact ⟨by rw [pubErr, if_pos (by omega)]; rfl, hK'⟩
 ·
  have h1 : ¬ h < 1 := by simpa using hg5
  refine aq O O O O O O O (af O O) (aq O O O O O O O (bH O O O) ?_)
  refine aa O O O (aE O O O) (ai ?_)
  refine ae (hK3 _ _ ?_)
  refine aH O (fun hc8 => ?_) (fun hc8 => ?_)
  ·
   have h2 : 8 < h := by simpa using hc8
   refine ah fun K5 hK5 => aj (aa O O O (ak O O) ?_)
   refine ai (ae ?_)
   refine hK5 _ _ (aw (aB av) (ar O (.cons (.tmp O) .nil) O) (fun w' hM' hK' => ?_))
   exact ⟨by rw [pubErr, if_pos (by omega)]; rfl, hK'⟩
  ·
   have h2 : ¬ 8 < h := by simpa using hc8
   refine aC (ae ?_)
   refine hK2 _ _ (ah fun K6 hK6 => ?_)
   refine aj (aa O O O (ak O O) ?_)
   refine ai (ae ?_)
   refine hK6 _ _ (aw av (ar O (.cons (.tmp O) .nil) O) (fun w' hM' hK' => ?_))
   exact ⟨by rw [pubErr, if_neg (by omega)]; rfl, hK'⟩
theorem pcheck_c (h : Int) (r : B 16) (w : World) : Calls Tryz.prog 48 [.agg (flat (pseg h r))].toArray w fun e w' => e = .returned (.int .i64 (pubErr h)) ∧ Keeps none1 w w' := by
 refine aJ (n := 6) (W := SL.none1) (m := []) Tryz.func48 O Tryz.ntmps48 O (aO _ _ _) ?_
 simp only [SL.enum, Nat.reduceAdd]
 refine ah fun K1 hK1 => aj (am O (bh _ O O O O O) ?_)
 intro b1 _
 try simp only [setN, putD, selM, nth, cw, cx]
 refine aa O O O (ak O O) (ai ?_)
 refine ae (hK1 _ _ ?_)
 refine ah fun K2 hK2 => aj (aa O O O (au (k := 0) O O (by kernel_rfl) O) ?_)
 refine aa O O O (by first | exact al 0 O O O O (by kernel_rfl)) ?_
 refine am O (aN O O (by kernel_rfl) O O (fun w hM hK => height_c h w)) ?_
 intro _ _
 try simp only [setN, putD, selM, nth, cw, cx]
 refine aa O O O (ak O O) (ai ?_)
 refine ae (hK2 _ _ ?_)
 refine aw av (ar O (.cons (.tmp O) .nil) O) (fun w' hM' hK' => ?_)
 exact ⟨rfl, hK'⟩
theorem pbytes_c (h : Int) (r : B 16) (w : World) : Calls Tryz.prog 100 [.agg (flat (pseg h r))].toArray w fun e w' => ∃ x : Option Addr × Nat, 17 ≤ x.2 ∧ e = .returned (.slice x.1 17 x.2) ∧ Post w (blocksOf []) [.row (.slice x.1 17 x.2) 5 1 17 (bytesV (pkB h r))] w' := by
 refine aJ (n := 10) (W := (blocksOf [])) (m := []) Tryz.func100 O Tryz.ntmps100 O (aO _ _ _) ?_
 simp only [SL.enum, Nat.reduceAdd]
 refine ah fun K1 hK1 => aj (am O (bh _ O O O O O) ?_)
 intro b1 _
 try simp only [setN, putD, selM, nth, cw, cx]
 refine aa O O O (ak O O) (ai ?_)
 refine ae (hK1 _ _ ?_)
 refine ah fun K2 hK2 => ck [0] mixed O O ?_
 simp only [List.replicate, List.length_cons, List.length_nil, Nat.reduceAdd, SL.selM, SL.nth]
 refine aG 0 O O O O (by kernel_rfl) (by kernel_rfl) (by kernel_rfl) O (fun _ _ _ h => h) [0] O O (au (k := 0) O O (by kernel_rfl) O) ?_
 refine aG 1 O O O O (by kernel_rfl) (by kernel_rfl) (by kernel_rfl) O (fun _ _ _ h => h) [0] O O (by first | exact al 0 O O O O (by kernel_rfl)) ?_
 refine aG 2 O O O O (by kernel_rfl) (by kernel_rfl) (by kernel_rfl) O (fun _ _ _ h => h) [0] O O (bT (r := ((UInt8.ofNat (h % 256).toNat).toNat : Int)) O O (by kernel_rfl) Tryz.underlying5 (by rw [IntKind.wrap_u8, UInt8.toNat_ofNat']; omega)) ?_
 refine aG 4 O O O O (by kernel_rfl) (by kernel_rfl) (by kernel_rfl) O (fun _ _ _ h => h) [0] O O (au (k := 1) O O (by kernel_rfl) O) ?_
 refine aG 5 O O O O (by kernel_rfl) (by kernel_rfl) (by kernel_rfl) O (fun _ _ _ h => h) [0] O O (SL.Pure.sliceArrO (sz := 1) O O Tryz.underlying22 (by kernel_rfl) (by decide)) ?_
 refine aY 3 O O (by kernel_rfl) O [1] (fun _ => rfl) O (by exact bW #[.int .u8 0] [.int .u8 (UInt8.ofNat (h % 256).toNat).toNat] O O Tryz.underlying52 (by kernel_rfl) (by kernel_rfl) O (by decide) O O) ?_
 intro g6 _
 try simp only [setN, putD, selM, nth, cw, cx]
 refine aY 6 O O (by kernel_rfl) O [1] (fun _ => rfl) O (by exact bF (by' := 1) 0 [1] O O O O Tryz.underlying52 Tryz.underlying52 (by kernel_rfl) (fun w' hM _ => SL.RC.ofB1 (SL.Mem.blk (i := 1) O hM) (by decide)) (SL.bytesV_one r.l) O O O O (by omega) (by omega)) ?_
 intro v9 hv9
 try simp only [setN, putD, selM, nth, cw, cx]
 refine aG 7 O O O O (by kernel_rfl) (by kernel_rfl) (by kernel_rfl) O (fun _ _ _ h => h) [1] O O (ak O O) ?_
 refine bN (by kernel_rfl) ?_
 refine SL.Ok.rowSlice 0 O ?_
 rintro ⟨a', c', rfl, hc'⟩
 refine ae (hK2 _ _ ?_)
 refine aw av (ar O (.cons (.tmp O) .nil) O) (fun w' hM' hK' => ?_)
 exact ⟨(a', c'), hc', rfl, hK', hM'.sel [0] rfl⟩

theorem encodeB_c (x : List UInt8) (a : Option Addr) (len cap : Nat) (hl : x.length ≤ 100000) (w : World) (hR : RC 1 w a len (bytesV x)) :
  Calls Tryz.prog 99 [.slice a len cap].toArray w fun e w' => e = .returned (.tuple #[str (b64 x), .int .i64 0]) ∧ Keeps none1 w w' := by
 have h1 := hR.1
 rw [bytesV_length] at h1
 refine aJ (n := 9) (W := SL.none1) (m := []) Tryz.func99 O Tryz.ntmps99 O (aO _ _ _) ?_
 simp only [SL.enum, Nat.reduceAdd]
 refine ah fun K1 hK1 => aj (aa O O O (ak O O) ?_)
 refine aa O O O (ak O O) (ai ?_)
 refine ae (hK1 _ _ ?_)
 refine ah fun K2 hK2 => ah fun K3 hK3 => aj (aa O O O (af O O) ?_)
 refine aa O O O (bw O O O Tryz.underlying52) (aa O O O (bH O O O) ?_)
 refine ai (ae ?_)
 refine hK3 _ _ (cf O ((by simp; omega)) ?_)
 refine aC (ae ?_)
 refine hK2 _ _ (ah fun K4 hK4 => ?_)
 refine aj (aa O O O (af O O) ?_)
 refine am O (aN O O (by kernel_rfl) O O (fun w hM hK => encode_c x a len cap hl w (hR.keep hK))) ?_
 intro _ _
 try simp only [setN, putD, selM, nth, cw, cx]
 refine aa O O O (ak O O) (aa O O O (ak O O) ?_)
 refine ai (ae ?_)
 refine hK4 _ _ (aw av (ar O (.cons (.tmp O) (.cons (.tmp O) .nil)) O) (fun w' hM' hK' => ?_))
 exact ⟨rfl, hK'⟩

def pubT (h : Int) (r : B 16) : List UInt8 := if pubErr h = 0 then b64 (pkB h r) else []
theorem publicText_c (h : Int) (r : B 16) (w : World) : Calls Tryz.prog 78 [.agg (flat (pseg h r))].toArray w fun e w' => ∃ _ : Unit, True ∧ e = .returned (.tuple #[str (pubT h r), .int .i64 (pubErr h)]) ∧ Post w (blocksOf []) [] w' := by
 refine aJ (n := 15) (W := (blocksOf [])) (m := []) Tryz.func78 O Tryz.ntmps78 O (aO _ _ _) ?_
 simp only [SL.enum, Nat.reduceAdd]
 refine ah fun K1 hK1 => aj (am O (bh _ O O O O O) ?_)
 intro b1 _
 try simp only [setN, putD, selM, nth, cw, cx]
 refine aa O O O (ak O O) (aa O O O (ak O O) ?_)
 refine ai (ae ?_)
 refine hK1 _ _ (ah fun K2 hK2 => ?_)
 refine ah fun K3 hK3 => aj (aa O O O (by first | exact ay 0 (k := 17) O O O (by kernel_rfl) O (by kernel_rfl)) ?_)
 refine am O (aN O O (by kernel_rfl) O O (fun w hM hK => pcheck_c h r w)) ?_
 intro _ _
 try simp only [setN, putD, selM, nth, cw, cx]
 refine aa O O O (ak O O) (ai ?_)
 refine ae (hK3 _ _ ?_)
 refine ah fun K4 hK4 => aj (aa O O O (af O O) ?_)
 refine aa O O O (bl O O O) (ai ?_)
 refine ae (hK4 _ _ ?_)
 refine aH O (fun hc8 => ?_) (fun hc8 => ?_)
 ·
  have he : ¬ pubErr h = 0 := by simpa using hc8
  refine ah fun K5 hK5 => aj (aa O O O (af O O) ?_)
  refine aa O O O (ak O O) (aa O O O (ak O O) ?_)
  refine ai (ae ?_)
  refine hK5 _ _ (aw (aB av) (ar O (.cons (.tmp O) (.cons (.tmp O) .nil)) O) (fun w' hM' hK' => ?_))
  exact ⟨(), trivial, by rw [pubT, if_neg he]; rfl, hK', hM'.sel [] rfl⟩
 ·
  have he : pubErr h = 0 := by simpa using hc8
  refine aC (ae ?_)
  refine hK2 _ _ (ah fun K6 hK6 => ?_)
  refine aj (aa O O O (by first | exact ay 0 (k := 17) O O O (by kernel_rfl) O (by kernel_rfl)) ?_)
  refine am O (aM [] [0] O O (by kernel_rfl) O O O O (fun w hM hK => pbytes_c h r w)) ?_
  intro ⟨a', c'⟩ hv'
  try simp only [setN, putD, selM, nth, cw, cx]
  refine am O (aN O O (by kernel_rfl) O O (fun w hM hK => encodeB_c (pkB h r) a' 17 c' (by rw [pkB_len]; decide) w (bK (i := 0) O hM))) ?_
  intro _ _
  try simp only [setN, putD, selM, nth, cw, cx]
  refine aa O O O (aW O O O) (aa O O O (aW O O O) ?_)
  refine aa O O O (ak O O) (aa O O O (ak O O) ?_)
  refine ai (ae ?_)
  refine hK6 _ _ (aw av (ar O (.cons (.tmp O) (.cons (.tmp O) .nil)) O) (fun w' hM' hK' => ?_))
  exact ⟨(), trivial, by rw [pubT, if_pos he, he]; rfl, hK', hM'.sel [] rfl⟩

def keyP (c : Con) : List UInt8 := Lib.decDigits c.num.toNat ++ [32] ++ pubT c.height c.root
theorem pubT_len (h : Int) (r : B 16) : (pubT h r).length ≤ 200 := by
 have := b64_len (pkB h r)
 rw [pkB_len] at this
 unfold pubT
 split
 ·
  omega
 ·
  simp
theorem key_c (c : Con) (p : CAt) (hn : 0 ≤ c.num) (hn2 : c.num ≤ 9223372036854775807) (w : World) (hG : Glob w) :
  Calls Tryz.prog 57 [.agg (flat (cseg c p))].toArray w fun e w' => e = .returned (str (keyP c)) ∧ Keeps none1 w w' := by
 have hd := decI_len c.num hn2
 have hb := pubT_len c.height c.root
 refine aJ (n := 17) (W := SL.none1) (m := []) Tryz.func57 O Tryz.ntmps57 O (aO _ _ _) ?_
 simp only [SL.enum, Nat.reduceAdd]
 refine ah fun K1 hK1 => aj (am O (bh _ O O O O O) ?_)
 intro b1 _
 try simp only [setN, putD, selM, nth, cw, cx]
 refine aa O O O (ak O O) (ai ?_)
 refine ae (hK1 _ _ ?_)
 refine ah fun K2 hK2 => aj (aa O O O (au (k := 56) O O (by kernel_rfl) O) ?_)
 refine aa O O O (by first | exact ay 0 (k := 17) O O O (by kernel_rfl) O (by kernel_rfl)) ?_
 refine am O (aN O O (by kernel_rfl) O O (fun w hM hK => V_of_E (publicText_c c.height c.root w))) ?_
 intro _ _
 try simp only [setN, putD, selM, nth, cw, cx]
 refine aa O O O (af O O) (aa O O O (aW O O O) ?_)
 refine aa O O O (aW O O O) (aa O O O (ak O O) ?_)
 refine aa O O O (ak O O) (ai ?_)
 refine ae (hK2 _ _ ?_)
 refine ah fun K3 hK3 => aj (aa O O O (au (k := 55) O O (by kernel_rfl) O) ?_)
 refine aa O O O (by first | exact al 0 O O O O (by kernel_rfl)) ?_
 refine am O (aN O O (by kernel_rfl) O O (fun w hM hK => itoa_c c.num hn hn2 w (hG.keep hK))) ?_
 intro _ _
 try simp only [setN, putD, selM, nth, cw, cx]
 refine aa O O O (ba O O (show _ = some (str [32]) from O) (by simp; omega)) ?_
 refine aa O O O (af O O) (aa O O O (ba O O O (by simp only [List.length_append, List.length_singleton]; omega)) ?_)
 refine aa O O O (ak O O) (ai ?_)
 refine ae (hK3 _ _ ?_)
 refine aw av (ar O (.cons (.tmp O) .nil) O) (fun w' hM' hK' => ?_)
 exact ⟨rfl, hK'⟩
end Go.Proofs.YthfhhkanpnemcaaGreatDoor
namespace Go.Proofs.YthfhhkanpnemcaaGreatDoor
open Go.SL Go.RowKit IntWalk
set_option linter.unusedVariables false
set_option maxRecDepth 100000
set_option linter.unusedSimpArgs false
set_option maxHeartbeats 400000

abbrev errsO (e : Int) : Obj := .cells (flat [Seg.one (.int .i64 e) rfl]) 82 (0, 0)
def seeM (x e : Int) : Int := if x = 0 then e else x
def mustM (x : Int) (is : Bool) (e : Int) : Int := if is then x else seeM x e

theorem see_c (b : Nat) (x e : Int) (w : World) (hm : Mem (blocksOf [.blk b (errsO x)]) w [.blk b (errsO x)] w) :
  Calls Tryz.prog 44 [.pointer (some ⟨b, 0, none⟩), .int .i64 e].toArray w fun r w' => ∃ _ : Unit, True ∧ r = .returned (.tuple #[]) ∧ Post w (blocksOf [.blk b (errsO x)]) [.blk b (errsO (seeM x e))] w' := by
 refine aJ (n := 13) (W := (blocksOf [.blk b (errsO x)])) (m := [.blk b (errsO x)]) Tryz.func44 O Tryz.ntmps44 O hm ?_
 simp only [SL.enum, Nat.reduceAdd]
 refine ah fun K1 hK1 => aj (aa O O O (af O O) ?_)
 refine aa O O O (aZ O O) (aa O O O (au (k := 0) O O (by kernel_rfl) O) ?_)
 refine aa O O O (by first | exact al 0 O O O O (by kernel_rfl)) ?_
 refine aa O O O (bt O O O) (ai ?_)
 refine ae (hK1 _ _ ?_)
 refine aH O (fun hc8 => ?_) (fun hc8 => ?_)
 ·
  have h : x = 0 := by simpa using hc8
  have hs : seeM x e = e := if_pos h
  refine aj (aa O O O (af O O) ?_)
  refine aa O O O (af O O) (aa O O O (aZ O O) ?_)
  refine aa O O O (au (k := 0) O O (by kernel_rfl) O) ?_
  refine am O (by first | exact ap (k := 1) 0 [SL.Seg.one _ rfl] O O O O O O (by kernel_rfl) O O) ?_
  intro _ _
  try simp only [setN, putD, selM, nth, cw, cx]
  refine ai (ci (fun _ _ h => h) (ar O .nil O) (fun w' hM' hK' => ?_))
  exact ⟨(), trivial, rfl, hK', by rw [hs]; exact hM'.sel [0] rfl⟩
 ·
  have h : ¬ x = 0 := by simpa using hc8
  have hs : seeM x e = x := if_neg h
  refine aC (ci (fun _ _ h => h) (ar O .nil O) (fun w' hM' hK' => ?_))
  exact ⟨(), trivial, rfl, hK', by rw [hs]; exact hM'.sel [0] rfl⟩
theorem must_c (b : Nat) (x e : Int) (is : Bool) (w : World) (hm : Mem (blocksOf [.blk b (errsO x)]) w [.blk b (errsO x)] w) :
  Calls Tryz.prog 42 [.pointer (some ⟨b, 0, none⟩), .bool is, .int .i64 e].toArray w fun r w' => ∃ _ : Unit, True ∧ r = .returned (.tuple #[]) ∧ Post w (blocksOf [.blk b (errsO x)]) [.blk b (errsO (mustM x is e))] w' := by
 refine aJ (n := 11) (W := (blocksOf [.blk b (errsO x)])) (m := [.blk b (errsO x)]) Tryz.func42 O Tryz.ntmps42 O hm ?_
 simp only [SL.enum, Nat.reduceAdd]
 refine ah fun K1 hK1 => aj (aa O O O (af O O) ?_)
 refine aa O O O (bM O O) (ai ?_)
 refine ae (hK1 _ _ ?_)
 refine aH O (fun hc7 => ?_) (fun hc7 => ?_)
 ·
  have h : is = false := by simpa using hc7
  subst h
  refine aj (aa O O O (af O O) ?_)
  refine aa O O O (af O O) (am O (aM [0] [] O O (by kernel_rfl) O O O O (fun w hM hK => see_c b x e w (hM.sel [0] O).own)) ?_)
  intro _ _
  try simp only [setN, putD, selM, nth, cw, cx]
  refine ai (ci (fun _ _ h => h) (ar O .nil O) (fun w' hM' hK' => ?_))
  exact ⟨(), trivial, rfl, hK', hM'.sel [0] rfl⟩
 ·
  have h : is = true := by simpa using hc7
  subst h
  refine aC (ci (fun _ _ h => h) (ar O .nil O) (fun w' hM' hK' => ?_))
  exact ⟨(), trivial, rfl, hK', hM'.sel [0] rfl⟩

/-- the lines of the form, as the program makes them -/
def grM (c : Con) : List UInt8 := if fmtErr c.groups = 0 then Lib.join c.groups [44] else []
def rfM (c : Con) : List UInt8 := if 0 < c.refs.length then refsM c else []
def partsP (c : Con) : List (List UInt8) := [[110, 97, 109, 101, 32] ++ c.name, [97, 117, 116, 104, 111, 114, 32] ++ hexs c.author.l, [100, 97, 116, 101, 32] ++ Lib.decDigits c.date.toNat, [103, 114, 111, 117, 112, 115, 32] ++ grM c, [115, 117, 98, 106, 101, 99, 116, 32] ++ c.subj, [114, 101, 102, 101, 114, 101, 110, 99, 101, 115, 32] ++ rfM c,
 [115, 117, 112, 101, 114, 115, 101, 100, 101, 115, 32] ++ msgM c.sup, [99, 111, 110, 116, 114, 111, 108, 32] ++ c.ctl, [100, 105, 115, 116, 114, 105, 98, 117, 116, 105, 111, 110, 32] ++ c.dist, [107, 101, 121, 32] ++ keyP c, [108, 101, 97, 102, 32] ++ Lib.decDigits c.leaf.toNat, []]
theorem keyP_len (c : Con) (h : c.num ≤ 9223372036854775807) : (keyP c).length ≤ 300 := by
 have h1 := decI_len c.num h
 have h2 := pubT_len c.height c.root
 unfold keyP
 simp only [List.length_append, List.length_singleton]
 omega
/-- bounds under which the program's form is walked -/
structure CBP (c : Con) : Prop extends CB c where
 gl : c.groups.length ≤ 1000
 gj : (Lib.join c.groups [44]).length ≤ 100000
 ge : ∀ x ∈ c.groups, x.length ≤ 100000

theorem k0 {w w' : World} (h : Keeps (blocksOf []) w w') : Keeps none1 w w' := h.mono (fun k ⟨r, hr, _⟩ => by cases hr)

theorem parts_c (c : Con) (p : CAt) (h : CBP c) (w : World) (hG : Glob w) (hR : CRd w c p) :
    Calls Tryz.prog 30 [.agg (flat (cseg c p))].toArray w fun e w' => ∃ g : Nat, True ∧ e = .returned (.slice (some ⟨g, 0, none⟩) 12 12) ∧ Post w (blocksOf []) [.row (.slice (some ⟨g, 0, none⟩) 12 12) 9 1 12 ((partsP c).map str)] w' := by
  obtain ⟨hg, hr, hgc, hrc⟩ := hR
  have h1 := h.name; have h2 := hexs_len c.author.l; have h3 := decI_len c.date h.date.2; have h5 := h.subj
  have h6 := refsM_len c h.refs; have h7 := msgM_len c.sup; have h8 := h.ctl; have h9 := h.dist; have h10 := keyP_len c h.num.2; have h11 := decI_len c.leaf h.leaf.2; have h13 := h.body; have h14 := h.gj
  have hgr : (grM c).length ≤ 100000 := by unfold grM; split; · exact h14
                                           · simp
  rw [c.author.h] at h2
  have hrl : c.refs.length = p.rl := by have := hr.1; rw [idsV_len] at this; omega
  refine aJ (n := 58) (W := (blocksOf [])) (m := []) Tryz.func30 O Tryz.ntmps30 O (aO _ _ _) ?_
  simp only [SL.enum, Nat.reduceAdd]
  refine ah fun K1 hK1 => aj (am O (bh _ O O O O O) ?_)
  intro b1 _
  try simp only [setN, putD, selM, nth, cw, cx]
  refine aa O O O (ak O O) (ai ?_)
  refine ae (hK1 _ _ ?_)
  refine ah fun K2 hK2 => aj (aa O O O (au (k := 18) O O (by kernel_rfl) O) ?_)
  refine aa O O O (by first | exact al 0 O O O O (by kernel_rfl)) ?_
  refine am O (aN O O (by kernel_rfl) O O (fun w hM hK => formatList_c c.groups p.ga p.gl p.gc hgc (fun x hx => by have := h.ge x hx; omega) (by omega) (by have := h.gl; omega) w (hG.keep (k0 hK)) (hg.keep (k0 hK)))) ?_
  intro _ _
  try simp only [setN, putD, selM, nth, cw, cx]
  refine aa O O O (af O O) (aa O O O (aW (v := str (grM c)) O O O) ?_)
  refine aa O O O (aW O O O) (aa O O O (ak O O) ?_)
  refine aa O O O (ak O O) (ai ?_)
  refine ae (hK2 _ _ ?_)
  refine ah fun K3 hK3 => aj (aa O O O (ak O O) ?_)
  refine ai (ae ?_)
  refine hK3 _ _ (ah fun K4 hK4 => ?_)
  refine ah fun K5 hK5 => aj (aa O O O (au (k := 20) O O (by kernel_rfl) O) ?_)
  refine aa O O O (by first | exact al 0 O O O O (by kernel_rfl)) ?_
  refine aa O O O (bw O O O Tryz.underlying24) (aa O O O (bH O O O) ?_)
  refine ai (ae ?_)
  refine hK5 _ _ (aH O (fun hc15 => ?_) (fun hc15 => ?_))
  · skip
    have hrf : 0 < c.refs.length := by simp at hc15; omega
    have hr0 : rfM c = refsM c := if_pos hrf
    refine aj (aa O O O (au (k := 20) O O (by kernel_rfl) O) ?_)
    refine aa O O O (by first | exact al 0 O O O O (by kernel_rfl)) ?_
    refine am O (aN O O (by kernel_rfl) O O (fun w hM hK => rprint_c c.refs p.ra p.rl p.rc hrc w (hr.keep (k0 hK)))) ?_
    intro _ _
    try simp only [setN, putD, selM, nth, cw, cx]
    refine aa O O O (af O O) (aa O O O (aW (v := str (refsM c)) O O O) ?_)
    refine aa O O O (aW O O O) (aa O O O (ak O O) ?_)
    refine ai (ae ?_)
    refine hK4 _ _ (ah fun K6 hK6 => ?_)
    refine SL.Ok.quietLast2 35 O O mixed (by kernel_rfl) (by kernel_rfl) O (by kernel_rfl) O ?_
    refine aA O O O (az (au (k := 0) O O (by kernel_rfl) O)) ?_
    refine aA O O O (az (by first | exact al 0 O O O O (by kernel_rfl))) ?_
    refine aA O O O (az (ba O (show _ = some (str [110, 97, 109, 101, 32]) from O) O (by simp; omega))) ?_
    refine aA O O O (az (au (k := 1) O O (by kernel_rfl) O)) ?_
    refine aA O O O (az (by first | exact ay 0 (k := 16) O O O (by kernel_rfl) O (by kernel_rfl))) ?_
    refine aA O O O (bL O O (by kernel_rfl) O (fun w hM hK => authorText_c c.author w)) ?_
    refine aA O O O (az (ba O (show _ = some (str [97, 117, 116, 104, 111, 114, 32]) from O) O (by simp; omega))) ?_
    refine aA O O O (az (au (k := 17) O O (by kernel_rfl) O)) ?_
    refine aA O O O (az (by first | exact al 0 O O O O (by kernel_rfl))) ?_
    refine aA O O O (bL O O (by kernel_rfl) O (fun w hM hK => itoa_c c.date h.date.1 h.date.2 w (hG.keep (k0 hK)))) ?_
    refine aA O O O (az (ba O (show _ = some (str [100, 97, 116, 101, 32]) from O) O (by simp; omega))) ?_
    refine aA O O O (az (af O O)) (aA O O O (az (ba O (show _ = some (str [103, 114, 111, 117, 112, 115, 32]) from O) O (by simp; omega))) ?_)
    refine aA O O O (az (au (k := 19) O O (by kernel_rfl) O)) ?_
    refine aA O O O (az (by first | exact al 0 O O O O (by kernel_rfl))) ?_
    refine aA O O O (az (ba O (show _ = some (str [115, 117, 98, 106, 101, 99, 116, 32]) from O) O (by simp; omega))) ?_
    refine aA O O O (az (af O O)) (aA O O O (az (ba (u := rfM c) O (show _ = some (str [114, 101, 102, 101, 114, 101, 110, 99, 101, 115, 32]) from O) (by rw [hr0]; rfl) (by rw [hr0]; simp <;> omega))) ?_)
    refine aA O O O (az (au (k := 21) O O (by kernel_rfl) O)) ?_
    refine aA O O O (az (by first | exact ay 0 (k := 32) O O O (by kernel_rfl) O (by kernel_rfl))) ?_
    refine aA O O O (bL O O (by kernel_rfl) O (fun w hM hK => idText_c c.sup w)) ?_
    refine aA O O O (az (ba O (show _ = some (str [115, 117, 112, 101, 114, 115, 101, 100, 101, 115, 32]) from O) O (by simp; omega))) ?_
    refine aA O O O (az (au (k := 53) O O (by kernel_rfl) O)) ?_
    refine aA O O O (az (by first | exact al 0 O O O O (by kernel_rfl))) ?_
    refine aA O O O (az (ba O (show _ = some (str [99, 111, 110, 116, 114, 111, 108, 32]) from O) O (by simp; omega))) ?_
    refine aA O O O (az (au (k := 54) O O (by kernel_rfl) O)) ?_
    refine aA O O O (az (by first | exact al 0 O O O O (by kernel_rfl))) ?_
    refine aA O O O (az (ba O (show _ = some (str [100, 105, 115, 116, 114, 105, 98, 117, 116, 105, 111, 110, 32]) from O) O (by simp; omega))) ?_
    refine aA O O O (az (by first | exact ay 0 (k := 75) O O O (by kernel_rfl) O (by kernel_rfl))) ?_
    refine aA O O O (bL O O (by kernel_rfl) O (fun w hM hK => key_c c p h.num.1 h.num.2 w (hG.keep (k0 hK)))) ?_
    refine aA O O O (az (ba O (show _ = some (str [107, 101, 121, 32]) from O) O (by simp; omega))) ?_
    refine aA O O O (az (au (k := 73) O O (by kernel_rfl) O)) ?_
    refine aA O O O (az (by first | exact al 0 O O O O (by kernel_rfl))) ?_
    refine aA O O O (bL O O (by kernel_rfl) O (fun w hM hK => itoa_c c.leaf h.leaf.1 h.leaf.2 w (hG.keep (k0 hK)))) ?_
    refine aA O O O (az (ba O (show _ = some (str [108, 101, 97, 102, 32]) from O) O (by simp; omega))) ?_
    refine SL.OkQ.last2 (by exact bW #[str [], str [], str [], str [], str [], str [], str [], str [], str [], str [], str [], str []] ((partsP c).map str) O O Tryz.underlying23 (by kernel_rfl) (by kernel_rfl) O (by decide) O O) (fun g57 _ => bZ O O (ak O O)) ?_
    intro g57 _
    try simp only [setN, putD, selM, nth, cw, cx]
    refine ae (hK6 _ _ ?_)
    refine aw av (ar O (.cons (.tmp O) .nil) O) (fun w' hM' hK' => ?_)
    exact ⟨g57, trivial, rfl, hK', hM'.sel [0] rfl⟩
  · skip
    have hrf : ¬ 0 < c.refs.length := by simp at hc15; omega
    have hr0 : rfM c = [] := if_neg hrf
    refine aC (ae ?_)
    refine hK4 _ _ (ah fun K7 hK7 => ?_)
    refine SL.Ok.quietLast2 35 O O mixed (by kernel_rfl) (by kernel_rfl) O (by kernel_rfl) O ?_
    refine aA O O O (az (au (k := 0) O O (by kernel_rfl) O)) ?_
    refine aA O O O (az (by first | exact al 0 O O O O (by kernel_rfl))) ?_
    refine aA O O O (az (ba O (show _ = some (str [110, 97, 109, 101, 32]) from O) O (by simp; omega))) ?_
    refine aA O O O (az (au (k := 1) O O (by kernel_rfl) O)) ?_
    refine aA O O O (az (by first | exact ay 0 (k := 16) O O O (by kernel_rfl) O (by kernel_rfl))) ?_
    refine aA O O O (bL O O (by kernel_rfl) O (fun w hM hK => authorText_c c.author w)) ?_
    refine aA O O O (az (ba O (show _ = some (str [97, 117, 116, 104, 111, 114, 32]) from O) O (by simp; omega))) ?_
    refine aA O O O (az (au (k := 17) O O (by kernel_rfl) O)) ?_
    refine aA O O O (az (by first | exact al 0 O O O O (by kernel_rfl))) ?_
    refine aA O O O (bL O O (by kernel_rfl) O (fun w hM hK => itoa_c c.date h.date.1 h.date.2 w (hG.keep (k0 hK)))) ?_
    refine aA O O O (az (ba O (show _ = some (str [100, 97, 116, 101, 32]) from O) O (by simp; omega))) ?_
    refine aA O O O (az (af O O)) (aA O O O (az (ba O (show _ = some (str [103, 114, 111, 117, 112, 115, 32]) from O) O (by simp; omega))) ?_)
    refine aA O O O (az (au (k := 19) O O (by kernel_rfl) O)) ?_
    refine aA O O O (az (by first | exact al 0 O O O O (by kernel_rfl))) ?_
    refine aA O O O (az (ba O (show _ = some (str [115, 117, 98, 106, 101, 99, 116, 32]) from O) O (by simp; omega))) ?_
    refine aA O O O (az (af O O)) (aA O O O (az (ba (u := rfM c) O (show _ = some (str [114, 101, 102, 101, 114, 101, 110, 99, 101, 115, 32]) from O) (by rw [hr0]; rfl) (by rw [hr0]; simp <;> omega))) ?_)
    refine aA O O O (az (au (k := 21) O O (by kernel_rfl) O)) ?_
    refine aA O O O (az (by first | exact ay 0 (k := 32) O O O (by kernel_rfl) O (by kernel_rfl))) ?_
    refine aA O O O (bL O O (by kernel_rfl) O (fun w hM hK => idText_c c.sup w)) ?_
    refine aA O O O (az (ba O (show _ = some (str [115, 117, 112, 101, 114, 115, 101, 100, 101, 115, 32]) from O) O (by simp; omega))) ?_
    refine aA O O O (az (au (k := 53) O O (by kernel_rfl) O)) ?_
    refine aA O O O (az (by first | exact al 0 O O O O (by kernel_rfl))) ?_
    refine aA O O O (az (ba O (show _ = some (str [99, 111, 110, 116, 114, 111, 108, 32]) from O) O (by simp; omega))) ?_
    refine aA O O O (az (au (k := 54) O O (by kernel_rfl) O)) ?_
    refine aA O O O (az (by first | exact al 0 O O O O (by kernel_rfl))) ?_
    refine aA O O O (az (ba O (show _ = some (str [100, 105, 115, 116, 114, 105, 98, 117, 116, 105, 111, 110, 32]) from O) O (by simp; omega))) ?_
    refine aA O O O (az (by first | exact ay 0 (k := 75) O O O (by kernel_rfl) O (by kernel_rfl))) ?_
    refine aA O O O (bL O O (by kernel_rfl) O (fun w hM hK => key_c c p h.num.1 h.num.2 w (hG.keep (k0 hK)))) ?_
    refine aA O O O (az (ba O (show _ = some (str [107, 101, 121, 32]) from O) O (by simp; omega))) ?_
    refine aA O O O (az (au (k := 73) O O (by kernel_rfl) O)) ?_
    refine aA O O O (az (by first | exact al 0 O O O O (by kernel_rfl))) ?_
    refine aA O O O (bL O O (by kernel_rfl) O (fun w hM hK => itoa_c c.leaf h.leaf.1 h.leaf.2 w (hG.keep (k0 hK)))) ?_
    refine aA O O O (az (ba O (show _ = some (str [108, 101, 97, 102, 32]) from O) O (by simp; omega))) ?_
    refine SL.OkQ.last2 (by exact bW #[str [], str [], str [], str [], str [], str [], str [], str [], str [], str [], str [], str []] ((partsP c).map str) O O Tryz.underlying23 (by kernel_rfl) (by kernel_rfl) O (by decide) O O) (fun g57 _ => bZ O O (ak O O)) ?_
    intro g57 _
    try simp only [setN, putD, selM, nth, cw, cx]
    refine ae (hK7 _ _ ?_)
    refine aw av (ar O (.cons (.tmp O) .nil) O) (fun w' hM' hK' => ?_)
    exact ⟨g57, trivial, rfl, hK', hM'.sel [0] rfl⟩
end Go.Proofs.YthfhhkanpnemcaaGreatDoor
namespace Go.Proofs.YthfhhkanpnemcaaGreatDoor
open Go.SL Go.RowKit IntWalk
set_option linter.unusedVariables false
set_option maxRecDepth 100000
set_option linter.unusedSimpArgs false
set_option maxHeartbeats 400000

theorem cut_c (s sep : List UInt8) (hs : s.length ≤ 100000000) (w : World) (hG : Glob w) : Calls Tryz.prog 72 [str s, str sep].toArray w fun e w' => e = .returned (.tuple #[str (Lib.cut s sep).1, str (Lib.cut s sep).2.1, .bool (Lib.cut s sep).2.2]) ∧ Keeps none1 w w' := by
 obtain ⟨m, hm⟩ := hG.max
 refine (Tryz.strings_Cut ⟨s.toArray⟩ ⟨sep.toArray⟩ m w (by rw [str_size]; omega) hm).mono fun e w' ⟨he, n, hw⟩ => ⟨?_, ?_⟩
 ·
  rw [he]; simp only [str]
 ·
  subst hw
  exact ⟨rfl, rfl, rfl, Nat.le_refl _, fun _ _ _ => rfl⟩

/-- the first error of a body's lines -/
def bodyF : Nat → List UInt8 → Int
 | _, [] => 0
 | 0, _ :: _ => 0
 | k + 1, c :: t => if (Lib.cut (c :: t) [10]).2.2 = false then 4 else if 998 < (Lib.cut (c :: t) [10]).1.length then 5 else if okLine (Lib.cut (c :: t) [10]).1 = false then 6 else bodyF k ((c :: t).drop ((Lib.cut (c :: t) [10]).1.length + 1))
def bodyE (s : List UInt8) : Int := bodyF s.length s
theorem bodyF_nil (k : Nat) : bodyF k [] = 0 := by cases k <;> rfl
theorem bodyF_succ {k : Nat} {s : List UInt8} (hs : s ≠ []) : bodyF (k + 1) s = if (Lib.cut s [10]).2.2 = false then 4 else if 998 < (Lib.cut s [10]).1.length then 5 else if okLine (Lib.cut s [10]).1 = false then 6 else bodyF k (s.drop ((Lib.cut s [10]).1.length + 1)) := by
 cases s with
 | nil => exact absurd rfl hs
 | cons c t => rfl
theorem cut_len {s : List UInt8} (h : (Lib.cut s [10]).2.2 = true) : (Lib.cut s [10]).1.length + 1 ≤ s.length := by
 unfold Lib.cut at h ⊢
 by_cases hi : 0 ≤ Lib.index s [10]
 ·
  rw [if_pos hi] at h ⊢
  have := Lib.index_room s [10] hi
  simp at this ⊢
  omega
 ·
  rw [if_neg hi] at h; cases h
theorem cut_le (s : List UInt8) : (Lib.cut s [10]).1.length ≤ s.length := by
 unfold Lib.cut
 split <;> simp; omega

theorem checkBody_c (s : List UInt8) (hl : s.length ≤ 1000000) (w : World) (hG : Glob w) : Calls Tryz.prog 49 [str s].toArray w fun e w' => ∃ x : Int, True ∧ e = .returned (.tuple #[.int .i64 x, .int .i64 (bodyE s)]) ∧ Post w (blocksOf []) [] w' := by
 refine aJ (n := 44) (W := (blocksOf [])) (m := []) Tryz.func49 O Tryz.ntmps49 O (aO _ _ _) ?_
 simp only [SL.enum, Nat.reduceAdd]
 refine ah fun K1 hK1 => aj (aa O O O (ak O O) ?_)
 refine aa O O O (ak O O) (ai ?_)
 refine ae (hK1 _ _ ?_)
 refine ah fun K2 hK2 => ah fun K3 hK3 => aj (aa O O O (ak O O) ?_)
 refine ai (ae ?_)
 refine hK3 _ _ (aK ?_)
 refine bu (X := (Nat × Nat)) (φ := fun X => X.1 ≤ s.length ∧ s.length - X.1 ≤ X.2 ∧ bodyF X.2 (s.drop X.1) = bodyE s) (L := fun X => [(0, str s), (4, .int .i64 (X.1 : Int))]) (M := fun X => []) (μ := fun X => s.length - X.1) ?_ ?_
 ·
  exact fun _ _ st => ⟨(0, s.length), ⟨Nat.zero_le _, Nat.le_refl _, rfl⟩, st.to [] ⟨rfl, rfl, trivial⟩ O rfl⟩
 ·
  intro ⟨at_, k⟩ ⟨hat, hk, hbo⟩
  try dsimp only
  dsimp only at hat hk hbo
  refine ah fun K4 hK4 => ah fun K5 hK5 => aj (aa O O O (af O O) ?_)
  refine aa O O O (af O O) (aa O O O (bf O O O Tryz.underlying9) ?_)
  refine aa O O O (aT O O O) (ai ?_)
  refine ae (hK5 _ _ ?_)
  refine aH O (fun hc12 => ?_) (fun hc12 => ?_)
  ·
   have hlt : at_ < s.length := by simp at hc12; omega
   have hne : s.drop at_ ≠ [] := by intro h; have := congrArg List.length h; simp at this; omega
   obtain ⟨k, rfl⟩ : ∃ k', k = k' + 1 := ⟨k - 1, by omega⟩
   rw [bodyF_succ hne] at hbo
   have hcl := cut_le (s.drop at_)
   rw [List.length_drop] at hcl
   refine aC (ae ?_)
   refine hK4 _ _ (aK ?_)
   refine ah fun K6 hK6 => aj (aa O O O (af O O) ?_)
   refine aa O O O (af O O) (aa O O O (SL.Pure.sliceSTo (r := s.drop at_) O O Tryz.underlying9 O O (by omega) (by omega) (by omega) (by simp)) ?_)
   refine am O (aN O O (by kernel_rfl) O O (fun w hM hK => cut_c (s.drop at_) [10] (by simp; omega) w (hG.keep (k0 hK)))) ?_
   intro _ _
   try simp only [setN, putD, selM, nth, cw, cx]
   refine aa O O O (af O O) (aa O O O (aW O O O) ?_)
   refine aa O O O (aW O O O) (aa O O O (aW O O O) ?_)
   refine aa O O O (ak O O) (aa O O O (ak O O) ?_)
   refine aa O O O (ak O O) (ai ?_)
   refine ae (hK6 _ _ ?_)
   refine ah fun K7 hK7 => aK (ah fun K8 hK8 => ?_)
   refine aj (aa O O O (af O O) ?_)
   refine aa O O O (bM O O) (aa O O O (ak O O) ?_)
   refine ai (ae ?_)
   refine hK8 _ _ (aH O (fun hc21 => ?_) (fun hc21 => ?_))
   ·
    have hf : (Lib.cut (s.drop at_) [10]).2.2 = false := by simpa using hc21
    rw [if_pos hf] at hbo
    refine ah fun K9 hK9 => aj (aa O O O (af O O) ?_)
    refine aa O O O (bf O O O Tryz.underlying9) (aa O O O (ak O O) ?_)
    refine aa O O O (ak O O) (ai ?_)
    refine ae (hK9 _ _ ?_)
    refine aw (aP (aB (aP (aB (aP (aB av)))))) (ar O (.cons (.tmp O) (.cons (.tmp O) .nil)) O) (fun w' hM' hK' => ?_)
    exact ⟨_, trivial, by rw [← hbo]; rfl, hK', hM'.sel [] rfl⟩
   ·
    have hf : (Lib.cut (s.drop at_) [10]).2.2 = true := by simpa using hc21
    rw [if_neg (by rw [hf]; decide)] at hbo
    have hcr := cut_len hf
    rw [List.length_drop] at hcr
    refine ah fun K10 hK10 => aj (aa O O O (af O O) ?_)
    refine aa O O O (bf O O O Tryz.underlying9) (aa O O O (bH O O O) ?_)
    refine aa O O O (ak O O) (ai ?_)
    refine ae (hK10 _ _ ?_)
    refine aH O (fun hc26 => ?_) (fun hc26 => ?_)
    ·
     have hg : 998 < (Lib.cut (s.drop at_) [10]).1.length := by simp at hc26; omega
     rw [if_pos hg] at hbo
     refine ah fun K11 hK11 => aj (aa O O O (af O O) ?_)
     refine aa O O O (aL O O O O (by omega) (by omega)) ?_
     refine aa O O O (ak O O) (aa O O O (ak O O) ?_)
     refine ai (ae ?_)
     refine hK11 _ _ (aw (aP (aB (aP (aB (aP (aB av)))))) (ar O (.cons (.tmp O) (.cons (.tmp O) .nil)) O) (fun w' hM' hK' => ?_))
     exact ⟨_, trivial, by rw [← hbo]; rfl, hK', hM'.sel [] rfl⟩
    ·
     have hg : ¬ 998 < (Lib.cut (s.drop at_) [10]).1.length := by simp at hc26; omega
     rw [if_neg hg] at hbo
     refine aC (aQ ?_)
     refine ae (hK7 _ _ ?_)
     refine ah fun K12 hK12 => ah fun K13 hK13 => aj (aa O O O (af O O) ?_)
     refine am O (aM [] [] O O (by kernel_rfl) O O O O (fun w hM hK => badByte_c (Lib.cut (s.drop at_) [10]).1 (by omega) w)) ?_
     intro z33 hz33
     try simp only [setN, putD, selM, nth, cw, cx]
     refine aa O O O (ak O O) (ai ?_)
     refine ae (hK13 _ _ ?_)
     refine ah fun K14 hK14 => aj (aa O O O (af O O) ?_)
     refine aa O O O (bB O O O) (ai ?_)
     refine ae (hK14 _ _ ?_)
     refine aH O (fun hc35 => ?_) (fun hc35 => ?_)
     ·
      have hz : okLine (Lib.cut (s.drop at_) [10]).1 = false := by
       rw [← Bool.not_eq_true]
       exact fun h => by have := hz33.2 h; simp at hc35; omega
      rw [if_pos hz] at hbo
      refine ah fun K15 hK15 => aj (aa O O O (af O O) ?_)
      refine aa O O O (af O O) (aa O O O (SL.Pure.add O O O) ?_)
      refine aa O O O (ak O O) (aa O O O (ak O O) ?_)
      refine ai (ae ?_)
      refine hK15 _ _ (aw (aB (aP (aB (aP (aB av))))) (ar O (.cons (.tmp O) (.cons (.tmp O) .nil)) O) (fun w' hM' hK' => ?_))
      exact ⟨_, trivial, by rw [← hbo]; rfl, hK', hM'.sel [] rfl⟩
     ·
      have hz : okLine (Lib.cut (s.drop at_) [10]).1 = true := hz33.1 (by simp at hc35; omega)
      rw [if_neg (by rw [hz]; decide), List.drop_drop, ← Nat.add_assoc] at hbo
      refine aC (ae ?_)
      refine hK12 _ _ (aj ?_)
      refine aa O O O (af O O) (aa O O O (af O O) ?_)
      refine aa O O O (bf O O O Tryz.underlying9) (aa O O O (aL O O O O (by omega) (by omega)) ?_)
      refine aa O O O (aL O O O O (by omega) (by omega)) ?_
      refine aa O O O (ak O O) (ai ?_)
      refine aQ (ae ?_)
      exact bd (at_ + (Lib.cut (s.drop at_) [10]).1.length + 1, k) [] ⟨show at_ + (Lib.cut (s.drop at_) [10]).1.length + 1 ≤ s.length by omega, show s.length - (at_ + (Lib.cut (s.drop at_) [10]).1.length + 1) ≤ k by omega, hbo⟩ (show s.length - (at_ + (Lib.cut (s.drop at_) [10]).1.length + 1) < s.length - at_ by omega) ⟨rfl, rfl, trivial⟩ O rfl
  ·
   have hge : at_ = s.length := by simp at hc12; omega
   rw [hge, List.drop_length, bodyF_nil] at hbo
   refine aU (aI ?_)
   refine aI (aV ?_)
   refine ae (hK2 _ _ ?_)
   refine ah fun K16 hK16 => aj (aa O O O (ak O O) ?_)
   refine aa O O O (ak O O) (ai ?_)
   refine ae (hK16 _ _ ?_)
   refine aw av (ar O (.cons (.tmp O) (.cons (.tmp O) .nil)) O) (fun w' hM' hK' => ?_)
   exact ⟨0, trivial, by rw [← hbo]; rfl, hK', hM'.sel [] rfl⟩
end Go.Proofs.YthfhhkanpnemcaaGreatDoor
