/- The program's public keys, read back. The program's public keys: ParsePublic. Control texts: definitions, keys, and the parsers of all kinds. Control texts: Parse. Control texts: Parse, the whole. -/
import Derived.Test.YthfhhkanpnemcaaGreatDoorMA
namespace Go.SL
open Go.RowKit
section
variable {P : Program} {n : Nat} {W : Nat → Prop} {w0 : World} {l : List (Nat × Value)} {m : List Res} {o : Oper}
theorem Pure.loadRg {t : TypeId} {x : Operand} {b off k : Nat} {q : List Seg} (hr : ∀ w, Mem W w0 m w → Keeps W w0 w → w.rangeAt b off (flat q).toList) (ho : o.op = .load t x) (hx : ev l x = some (.pointer (some ⟨b, off, none⟩)))
  (hk : csz P t = some k) (hq : width q = k) (ht : aggB P t = some true) : Pure P n W w0 l m o (.agg (flat q)) :=
 Pure.loadR ho hx ht (by rw [flat_size, hq]; exact hk) fun w hM hK j v hj => hr w hM hK j v hj
theorem Pure.toArrP {x : Operand} {arr e : TypeId} {a : Option Addr} {k c N : Nat} (ho : o.op = .sliceToArrayPointer arr x) (hx : ev l x = some (.slice a k c)) (hu : P.underlying arr = some (.array N e)) (hN : N ≤ k) : Pure P n W w0 l m o (.pointer a) :=
 fun ac w st => by
  have : ¬ k < N := by omega
  simp [execOp, ho, st.has.ev hx, Instr.arrayAt, run_underlying hu, this]
theorem Pure.sliceSlF {x q : Operand} {b off k cp sz j : Nat} {t e : TypeId} (ho : o.op = .slice t x none (some q) none) (hx : ev l x = some (.slice (some ⟨b, off, none⟩) k cp)) (hu : P.underlying t = some (.slice e)) (hsz : csz P e = some sz)
  (hq : ev l q = some (.int .i64 j)) (h2 : j ≤ cp) (hk : k ≤ cp) : Pure P n W w0 l m o (.slice (some ⟨b, off, none⟩) j cp) := by
 have := Pure.sliceSl (P := P) (n := n) (W := W) (w0 := w0) (m := m) (i := 0) (j := j) ho hx hu hsz rfl hq (Int.le_refl _) (by omega) (by omega) hk
 simpa using this
theorem Pure.sliceSlR {x q : Operand} {b off k cp sz i : Nat} {t e : TypeId} (ho : o.op = .slice t x (some q) none none) (hx : ev l x = some (.slice (some ⟨b, off, none⟩) k cp)) (hu : P.underlying t = some (.slice e)) (hsz : csz P e = some sz)
  (hq : ev l q = some (.int .i64 i)) (h2 : i ≤ k) (hk : k ≤ cp) : Pure P n W w0 l m o (.slice (some (if cp = i then ⟨b, off, none⟩ else ⟨b, off + i * sz, none⟩)) (k - i) (cp - i)) := by
 have := Pure.sliceSl (P := P) (n := n) (W := W) (w0 := w0) (m := m) (i := i) (j := k) ho hx hu hsz hq rfl (by omega) (by omega) (by omega) hk
 simpa using this
theorem RC.cell1 {w : World} {b off K i : Nat} {xs : List UInt8} (h : RC 1 w (some ⟨b, off, none⟩) K (bytesV xs)) (hi : i < xs.length) : w.cell? ⟨b, off + i, none⟩ = some (.int .u8 (xs.getD i 0).toNat) := by
 have h1 := h.1
 rw [bytesV_length] at h1
 rcases h.2.2 with h0 | ⟨b', off', he, _, hc⟩
 ·
  omega
 ·
  simp only [Option.some.injEq, Addr.mk.injEq, and_true] at he
  obtain ⟨rfl, rfl⟩ := he
  exact hc i _ (by simp [bytesV, List.getD, hi])
theorem RC.rangeB {w : World} {b off K i k : Nat} {xs : List UInt8} (h : RC 1 w (some ⟨b, off, none⟩) K (bytesV xs)) (hi : i + k ≤ xs.length) : w.rangeAt b (off + i) (flat [(B.of k ((xs.drop i).take k)).seg]).toList := by
 have hl : ((xs.drop i).take k).length = k := by simp; omega
 intro j v hj
 rw [flat_seg, B.of_l hl] at hj
 have hjk : j < k := by
  have := (List.getElem?_eq_some_iff.1 hj).1
  simp at this; omega
 rw [Nat.add_assoc, h.cell1 (by omega)]
 simp only [List.getElem?_map] at hj
 rw [List.getElem?_take, if_pos hjk, List.getElem?_drop, List.getElem?_eq_getElem (by omega)] at hj
 simp [Extern.Stop.cell] at hj
 subst hj
 simp [List.getD, show i + j < xs.length by omega]
end
end Go.SL
namespace Go.Proofs.YthfhhkanpnemcaaGreatDoor
open Go.SL Go.RowKit IntWalk
set_option linter.unusedVariables false
set_option maxRecDepth 100000
set_option linter.unusedSimpArgs false
set_option maxHeartbeats 400000

abbrev srO (a : Option Addr) (k c : Nat) (e : Int) : Obj := .cells (flat [Seg.one (.slice a k c) rfl, Seg.one (.int .i64 e) rfl]) 214 (0, 0)

theorem takeOK_c (b g i k c n : Nat) (hn : n ≤ k) (hk : k ≤ c) (hc : c ≤ maxLen) (w : World) (hm : Mem (blocksOf [.blk b (srO (some ⟨g, i, none⟩) k c 0)]) w [.blk b (srO (some ⟨g, i, none⟩) k c 0)] w) :
  Calls Tryz.prog 167 [.pointer (some ⟨b, 0, none⟩), .int .i64 n].toArray w fun q w' => ∃ ad : Addr, (n < k → ad = ⟨g, i + n, none⟩) ∧ q = .returned (.slice (some ⟨g, i, none⟩) n c) ∧ Post w (blocksOf [.blk b (srO (some ⟨g, i, none⟩) k c 0)]) [.blk b (srO (some ad) (k - n) (c - n) 0)] w' := by
 refine aJ (n := 46) (W := (blocksOf [.blk b (srO (some ⟨g, i, none⟩) k c 0)])) (m := [.blk b (srO (some ⟨g, i, none⟩) k c 0)]) Tryz.func167 O Tryz.ntmps167 O hm ?_
 simp only [SL.enum, Nat.reduceAdd]
 refine ah fun K1 hK1 => aj (aa O O O (ak O O) ?_)
 refine ai (ae ?_)
 refine hK1 _ _ (ah fun K2 hK2 => ?_)
 refine ah fun K3 hK3 => aj (aa O O O (af O O) ?_)
 refine aa O O O (aZ O O) (aa O O O (au (k := 1) O O (by kernel_rfl) O) ?_)
 refine aa O O O (by first | exact al 0 O O O O (by kernel_rfl)) ?_
 refine aa O O O (bt O O O) (aa O O O (af O O) ?_)
 refine SL.Ok.setT (d := 11) O ((by decide)) ?_
 refine aq O O O O O O O (af O O) (aq O O O O O O O (aZ O O) ?_)
 refine aq O O O O O O O (au (k := 0) O O (by kernel_rfl) O) ?_
 refine aq O O O O O O O (by first | exact al 0 O O O O (by kernel_rfl)) ?_
 refine aq O O O O O O O (bw O O O Tryz.underlying52) (aq O O O O O O O (af O O) ?_)
 refine aq O O O O O O O (aT O O O) (aa O O O (aF O O O) ?_)
 refine ai (ae ?_)
 refine hK3 _ _ (cf O ((by simp; omega)) ?_)
 refine aC (ae ?_)
 refine hK2 _ _ (ah fun K4 hK4 => ?_)
 refine ah fun K5 hK5 => aj (aa O O O (af O O) ?_)
 refine aa O O O (aZ O O) (aa O O O (au (k := 1) O O (by kernel_rfl) O) ?_)
 refine aa O O O (by first | exact al 0 O O O O (by kernel_rfl)) ?_
 refine aa O O O (bl O O O) (ai ?_)
 refine ae (hK5 _ _ ?_)
 refine cf O ((by decide)) ?_
 refine aC (ae ?_)
 refine hK4 _ _ (ah fun K6 hK6 => ?_)
 refine aj (aa O O O (af O O) ?_)
 refine aa O O O (aZ O O) (aa O O O (au (k := 0) O O (by kernel_rfl) O) ?_)
 refine aa O O O (by first | exact al 0 O O O O (by kernel_rfl)) ?_
 refine aa O O O (af O O) (aa O O O (SL.Pure.sliceSlF (sz := 1) O O Tryz.underlying52 (by kernel_rfl) O (by omega) (by omega)) ?_)
 refine aa O O O (ak O O) (ai ?_)
 refine ae (hK6 _ _ ?_)
 refine ah fun K7 hK7 => aj (aa O O O (af O O) ?_)
 refine aa O O O (af O O) (aa O O O (aZ O O) ?_)
 refine aa O O O (au (k := 0) O O (by kernel_rfl) O) ?_
 refine aa O O O (by first | exact al 0 O O O O (by kernel_rfl)) ?_
 refine aa O O O (af O O) (aa O O O (SL.Pure.sliceSlR (sz := 1) O O Tryz.underlying52 (by kernel_rfl) O (by omega) (by omega)) ?_)
 refine aa O O O (aZ O O) (aa O O O (au (k := 0) O O (by kernel_rfl) O) ?_)
 refine am O (by first | exact ap (k := 1) 0 [SL.Seg.one _ rfl] O O O O O O (by kernel_rfl) O O) ?_
 intro _ _
 try simp only [setN, putD, selM, nth, cw, cx]
 refine ai (ae ?_)
 refine hK7 _ _ (ah fun K8 hK8 => ?_)
 refine aj (aa O O O (af O O) ?_)
 refine aa O O O (ak O O) (ai ?_)
 refine ae (hK8 _ _ ?_)
 refine aw av (ar O (.cons (.tmp O) .nil) O) (fun w' hM' hK' => ?_)
 exact ⟨if c = n then ⟨g, i, none⟩ else ⟨g, i + n * 1, none⟩, fun h => by rw [if_neg (by omega), Nat.mul_one], rfl, hK', hM'.sel [0] rfl⟩
theorem takeBad_c (b k c n : Nat) (a : Option Addr) (e : Int) (he : e ≠ 0) (hn : 0 < n) (h24 : n ≤ 1024) (w : World) (hm : Mem (blocksOf [.blk b (srO a k c e)]) w [.blk b (srO a k c e)] w) :
  Calls Tryz.prog 167 [.pointer (some ⟨b, 0, none⟩), .int .i64 n].toArray w fun q w' => ∃ g : Nat, True ∧ q = .returned (.slice (some ⟨g, 0, none⟩) n n) ∧ Post w (blocksOf [.blk b (srO a k c e)]) [.blk g (.cells (flat [(B.zero n).seg]) 5 (0, 0)), .blk b (srO a k c e)] w' := by
 refine aJ (n := 46) (W := (blocksOf [.blk b (srO a k c e)])) (m := [.blk b (srO a k c e)]) Tryz.func167 O Tryz.ntmps167 O hm ?_
 simp only [SL.enum, Nat.reduceAdd]
 refine ah fun K1 hK1 => aj (aa O O O (ak O O) ?_)
 refine ai (ae ?_)
 refine hK1 _ _ (ah fun K2 hK2 => ?_)
 refine ah fun K3 hK3 => aj (aa O O O (af O O) ?_)
 refine aa O O O (aZ O O) (aa O O O (au (k := 1) O O (by kernel_rfl) O) ?_)
 refine aa O O O (by first | exact al 0 O O O O (by kernel_rfl)) ?_
 refine aa O O O (bt O O O) (aa O O O (af O O) ?_)
 refine SL.Ok.setF (d := 11) O ((by simpa using he)) ?_
 refine ag O O O O O O O (ag O O O O O O O ?_)
 refine ag O O O O O O O (ag O O O O O O O ?_)
 refine ag O O O O O O O (ag O O O O O O O ?_)
 refine ag O O O O O O O (aa O O O (aE O O O) ?_)
 refine ai (ae ?_)
 refine hK3 _ _ (bq O ?_)
 refine aC (ae ?_)
 refine hK2 _ _ (ah fun K4 hK4 => ?_)
 refine ah fun K5 hK5 => aj (aa O O O (af O O) ?_)
 refine aa O O O (aZ O O) (aa O O O (au (k := 1) O O (by kernel_rfl) O) ?_)
 refine aa O O O (by first | exact al 0 O O O O (by kernel_rfl)) ?_
 refine aa O O O (bl O O O) (ai ?_)
 refine ae (hK5 _ _ ?_)
 refine SL.Ok.condT' O ((by simpa using he)) ?_
 refine ah fun K6 hK6 => aj (aa O O O (af O O) ?_)
 refine am O (by exact SL.Eff.makeBytes n O O O Tryz.underlying52 (by kernel_rfl) hn h24 O O) ?_
 intro g29 _
 try simp only [setN, putD, selM, nth, cw, cx]
 refine aa O O O (ak O O) (ai ?_)
 refine ae (hK6 _ _ ?_)
 refine aw (aB av) (ar O (.cons (.tmp O) .nil) O) (fun w' hM' hK' => ?_)
 exact ⟨g29, trivial, rfl, hK', hM'.sel [0, 1] rfl⟩

abbrev bRow (g K C : Nat) (xs : List UInt8) : Res := .row (.slice (some ⟨g, 0, none⟩) K C) 5 1 K (bytesV xs)
abbrev valM (b g i k c K C : Nat) (xs : List UInt8) : List Res := [.blk b (srO (some ⟨g, i, none⟩) k c 0), bRow g K C xs]
theorem valueOK_c (b g i k c K C : Nat) (xs : List UInt8) (hn : 16 ≤ k) (hk : k ≤ c) (hc : c ≤ maxLen) (hx : i + 16 ≤ xs.length) (w : World) (hm : Mem (blocksOf (valM b g i k c K C xs)) w (valM b g i k c K C xs) w) :
  Calls Tryz.prog 168 [.pointer (some ⟨b, 0, none⟩)].toArray w fun q w' => ∃ ad : Addr, (16 < k → ad = ⟨g, i + 16, none⟩) ∧ q = .returned (.agg (flat [(B.of 16 ((xs.drop i).take 16)).seg])) ∧ Post w (blocksOf (valM b g i k c K C xs)) [.blk b (srO (some ad) (k - 16) (c - 16) 0), bRow g K C xs] w' := by
 refine aJ (n := 7) (W := (blocksOf (valM b g i k c K C xs))) (m := (valM b g i k c K C xs)) Tryz.func168 O Tryz.ntmps168 O hm ?_
 simp only [SL.enum, Nat.reduceAdd]
 refine ah fun K1 hK1 => aj (am O (aX [(B.zero 16).seg] O O O (by kernel_rfl)) ?_)
 intro b2 _
 try simp only [setN, putD, selM, nth, cw, cx]
 refine ai (ae ?_)
 refine hK1 _ _ (ah fun K2 hK2 => ?_)
 refine aj (aa O O O (af O O) ?_)
 refine am O (aM [1] [0, 2] O O (by kernel_rfl) O O O O (fun w hM hK => takeOK_c b g i k c 16 hn hk hc w (hM.sel [1] O).own)) ?_
 intro ad had
 try simp only [setN, putD, selM, nth, cw, cx]
 refine aa O O O (SL.Pure.toArrP O O Tryz.underlying22 (Nat.le_refl _)) (aa O O O (SL.Pure.loadRg (k := 16) (q := [(B.of 16 ((xs.drop i).take 16)).seg]) (fun w hM hK => by have h := (bK (i := 2) O hM).rangeB (i := i) (k := 16) hx; rw [Nat.zero_add] at h; exact h) O O (by kernel_rfl) O (by kernel_rfl)) ?_)
 refine am O (by first | exact ap (k := 16) 0 _ O O O O O O (by kernel_rfl) O O | exact ap (k := 16) 1 _ O O O O O O (by kernel_rfl) O O | exact ap (k := 16) 2 _ O O O O O O (by kernel_rfl) O O) ?_
 intro _ _
 try simp only [setN, putD, selM, nth, cw, cx]
 refine ai (ae ?_)
 refine hK2 _ _ (aw av (ar O (.cons (by first | exact SL.RV.cellA 0 (k := 16) O O (by kernel_rfl) O (by kernel_rfl) | exact SL.RV.cellA 1 (k := 16) O O (by kernel_rfl) O (by kernel_rfl) | exact SL.RV.cellA 2 (k := 16) O O (by kernel_rfl) O (by kernel_rfl)) .nil) O) (fun w' hM' hK' => ?_))
 exact ⟨ad, had, rfl, hK', hM'.sel [0, 2] rfl⟩
theorem valueBad_c (b k c : Nat) (a : Option Addr) (e : Int) (he : e ≠ 0) (w : World) (hm : Mem (blocksOf [.blk b (srO a k c e)]) w [.blk b (srO a k c e)] w) :
  Calls Tryz.prog 168 [.pointer (some ⟨b, 0, none⟩)].toArray w fun q w' => ∃ _ : Unit, True ∧ q = .returned (.agg (flat [(B.zero 16).seg])) ∧ Post w (blocksOf [.blk b (srO a k c e)]) [.blk b (srO a k c e)] w' := by
 refine aJ (n := 7) (W := (blocksOf [.blk b (srO a k c e)])) (m := [.blk b (srO a k c e)]) Tryz.func168 O Tryz.ntmps168 O hm ?_
 simp only [SL.enum, Nat.reduceAdd]
 refine ah fun K1 hK1 => aj (am O (aX [(B.zero 16).seg] O O O (by kernel_rfl)) ?_)
 intro b2 _
 try simp only [setN, putD, selM, nth, cw, cx]
 refine ai (ae ?_)
 refine hK1 _ _ (ah fun K2 hK2 => ?_)
 refine aj (aa O O O (af O O) ?_)
 refine am O (aM [1] [0] O O (by kernel_rfl) O O O O (fun w hM hK => takeBad_c b k c 16 a e he (by decide) (by decide) w (hM.sel [1] O).own)) ?_
 intro gz _
 try simp only [setN, putD, selM, nth, cw, cx]
 refine aa O O O (SL.Pure.toArrP O O Tryz.underlying22 (Nat.le_refl _)) (aa O O O (by first | exact ay 0 (k := 16) O O O (by kernel_rfl) O (by kernel_rfl) | exact ay 1 (k := 16) O O O (by kernel_rfl) O (by kernel_rfl) | exact ay 2 (k := 16) O O O (by kernel_rfl) O (by kernel_rfl)) ?_)
 refine am O (by first | exact ap (k := 16) 0 _ O O O O O O (by kernel_rfl) O O | exact ap (k := 16) 1 _ O O O O O O (by kernel_rfl) O O | exact ap (k := 16) 2 _ O O O O O O (by kernel_rfl) O O) ?_
 intro _ _
 try simp only [setN, putD, selM, nth, cw, cx]
 refine ai (ae ?_)
 refine hK2 _ _ (aw av (ar O (.cons (by first | exact SL.RV.cellA 0 (k := 16) O O (by kernel_rfl) O (by kernel_rfl) | exact SL.RV.cellA 1 (k := 16) O O (by kernel_rfl) O (by kernel_rfl) | exact SL.RV.cellA 2 (k := 16) O O (by kernel_rfl) O (by kernel_rfl)) .nil) O) (fun w' hM' hK' => ?_))
 exact ⟨(), trivial, rfl, hK', hM'.sel [1] rfl⟩
def endE (e : Int) (k : Nat) : Int := if e = 0 ∧ 0 < k then 5 else e
theorem rend_c (b k c : Nat) (a : Option Addr) (e : Int) (w : World) (hm : Mem (blocksOf [.blk b (srO a k c e)]) w [.blk b (srO a k c e)] w) :
  Calls Tryz.prog 169 [.pointer (some ⟨b, 0, none⟩)].toArray w fun q w' => ∃ _ : Unit, True ∧ q = .returned (.int .i64 (endE e k)) ∧ Post w (blocksOf [.blk b (srO a k c e)]) [.blk b (srO a k c (endE e k))] w' := by
 refine aJ (n := 23) (W := (blocksOf [.blk b (srO a k c e)])) (m := [.blk b (srO a k c e)]) Tryz.func169 O Tryz.ntmps169 O hm ?_
 simp only [SL.enum, Nat.reduceAdd]
 refine ah fun K1 hK1 => aj (aa O O O (ak O O) ?_)
 refine ai (ae ?_)
 refine hK1 _ _ (ah fun K2 hK2 => ?_)
 refine ah fun K3 hK3 => aj (aa O O O (af O O) ?_)
 refine aa O O O (aZ O O) (aa O O O (au (k := 1) O O (by kernel_rfl) O) ?_)
 refine aa O O O (by first | exact al 0 O O O O (by kernel_rfl)) ?_
 refine aa O O O (bt O O O) (aa O O O (af O O) ?_)
 refine aR (d := 8) O (fun hg8 => ?_) (fun hg8 => ?_)
 ·
  have h0 : e = 0 := by simpa using hg8
  refine aq O O O O O O O (af O O) (aq O O O O O O O (aZ O O) ?_)
  refine aq O O O O O O O (au (k := 0) O O (by kernel_rfl) O) ?_
  refine aq O O O O O O O (by first | exact al 0 O O O O (by kernel_rfl)) ?_
  refine aq O O O O O O O (bw O O O Tryz.underlying52) (aq O O O O O O O (bH O O O) ?_)
  refine aa O O O (aF O O O) (ai ?_)
  refine ae (hK3 _ _ ?_)
  refine aH O (fun hc15 => ?_) (fun hc15 => ?_)
  ·
   have hk : 0 < k := by simp at hc15; omega
   have hE : endE e k = 5 := if_pos ⟨h0, hk⟩
   refine aj (aa O O O (af O O) ?_)
   refine aa O O O (aZ O O) (aa O O O (au (k := 1) O O (by kernel_rfl) O) ?_)
   refine am O (by first | exact ap (k := 1) 0 [SL.Seg.one _ rfl] O O O O O O (by kernel_rfl) O O) ?_
   intro _ _
   try simp only [setN, putD, selM, nth, cw, cx]
   refine ai (ae ?_)
   refine hK2 _ _ (ah fun K4 hK4 => ?_)
   refine aj (aa O O O (af O O) ?_)
   refine aa O O O (aZ O O) (aa O O O (au (k := 1) O O (by kernel_rfl) O) ?_)
   refine aa O O O (by first | exact al 0 O O O O (by kernel_rfl)) ?_
   refine aa O O O (ak O O) (ai ?_)
   refine ae (hK4 _ _ ?_)
   refine aw av (ar O (.cons (.tmp O) .nil) O) (fun w' hM' hK' => ?_)
   exact ⟨(), trivial, by rw [hE]; rfl, hK', by rw [hE]; exact hM'.sel [0] rfl⟩
  ·
   have hk : ¬ 0 < k := by simp at hc15; omega
   have hE : endE e k = e := if_neg (fun h => hk h.2)
   refine aC (ae ?_)
   refine hK2 _ _ (ah fun K5 hK5 => ?_)
   refine aj (aa O O O (af O O) ?_)
   refine aa O O O (aZ O O) (aa O O O (au (k := 1) O O (by kernel_rfl) O) ?_)
   refine aa O O O (by first | exact al 0 O O O O (by kernel_rfl)) ?_
   refine aa O O O (ak O O) (ai ?_)
   refine ae (hK5 _ _ ?_)
   refine aw av (ar O (.cons (.tmp O) .nil) O) (fun w' hM' hK' => ?_)
   exact ⟨(), trivial, by rw [hE]; rfl, hK', by rw [hE]; exact hM'.sel [0] rfl⟩
 ·
  have h0 : ¬ e = 0 := by simpa using hg8
  have hE : endE e k = e := if_neg (fun h => h0 h.1)
  refine ag O O O O O O O (ag O O O O O O O ?_)
  refine ag O O O O O O O (ag O O O O O O O ?_)
  refine ag O O O O O O O (ag O O O O O O O ?_)
  refine aa O O O (aE O O O) (ai ?_)
  refine ae (hK3 _ _ ?_)
  refine bq O (aC ?_)
  refine ae (hK2 _ _ ?_)
  refine ah fun K6 hK6 => aj (aa O O O (af O O) ?_)
  refine aa O O O (aZ O O) (aa O O O (au (k := 1) O O (by kernel_rfl) O) ?_)
  refine aa O O O (by first | exact al 0 O O O O (by kernel_rfl)) ?_
  refine aa O O O (ak O O) (ai ?_)
  refine ae (hK6 _ _ ?_)
  refine aw av (ar O (.cons (.tmp O) .nil) O) (fun w' hM' hK' => ?_)
  exact ⟨(), trivial, by rw [hE]; rfl, hK', by rw [hE]; exact hM'.sel [0] rfl⟩
theorem open_c (s : List UInt8) (hl : s.length ≤ 100000) (w : World) :
  Calls Tryz.prog 166 [str s].toArray w fun q w' => ∃ x : Nat × Option Addr × Nat, (decO s).length ≤ x.2.2 ∧ q = .returned (.pointer (some ⟨x.1, 0, none⟩)) ∧ Post w (blocksOf []) [.blk x.1 (srO x.2.1 (decO s).length x.2.2 (decE s)), .row (.slice x.2.1 (decO s).length x.2.2) 5 1 (decO s).length (bytesV (decO s))] w' := by
 refine aJ (n := 16) (W := (blocksOf [])) (m := []) Tryz.func166 O Tryz.ntmps166 O (aO _ _ _) ?_
 simp only [SL.enum, Nat.reduceAdd]
 refine ah fun K1 hK1 => aj (aa O O O (ak O O) ?_)
 refine ai (ae ?_)
 refine hK1 _ _ (ah fun K2 hK2 => ?_)
 refine aj (aa O O O (af O O) ?_)
 refine am O (aM [] [] O O (by kernel_rfl) O O O O (fun w hM hK => decode_c s hl w)) ?_
 intro ⟨da, dc, dat⟩ hdc
 try simp only [setN, putD, selM, nth, cw, cx]
 refine aa O O O (af O O) (aa O O O (aW O O O) ?_)
 refine aa O O O (aW O O O) (aa O O O (aW O O O) ?_)
 refine aa O O O (ak O O) (aa O O O (ak O O) ?_)
 refine aa O O O (ak O O) (ai ?_)
 refine ae (hK2 _ _ ?_)
 refine ah fun K3 hK3 => aj (aa O O O (af O O) ?_)
 refine aa O O O (af O O) (aa O O O (bg [(0, 1), (1, 1)] [Seg.one (.slice none 0 0) rfl, Seg.one (.int .i64 0) rfl] O O (.cons (.one O) (.cons (.one O) .nil)) (by kernel_rfl) (by kernel_rfl) O) ?_)
 refine am O (bh _ O O O O O) ?_
 intro b15 _
 try simp only [setN, putD, selM, nth, cw, cx]
 refine aa O O O (ak O O) (ai ?_)
 refine ae (hK3 _ _ ?_)
 refine aw av (ar O (.cons (.tmp O) .nil) O) (fun w' hM' hK' => ?_)
 exact ⟨(b15, da, dc), hdc, rfl, hK', hM'.sel [0, 1] rfl⟩
end Go.Proofs.YthfhhkanpnemcaaGreatDoor
namespace Go.Proofs.YthfhhkanpnemcaaGreatDoor
open Go.SL Go.RowKit IntWalk
set_option linter.unusedVariables false
set_option maxRecDepth 100000
set_option linter.unusedSimpArgs false
set_option maxHeartbeats 400000

def pubE (s : List UInt8) : Int := if decE s ≠ 0 then decE s else if (decO s).length < 17 then 4 else if 17 < (decO s).length then 5 else pubErr (((decO s).getD 0 0).toNat : Int)
def pubHt (s : List UInt8) : Int := if pubE s = 0 then (((decO s).getD 0 0).toNat : Int) else 0
def pubRt (s : List UInt8) : B 16 := if pubE s = 0 then B.of 16 (((decO s).drop 1).take 16) else B.zero 16
theorem pubErr_0 (h : Int) : pubErr h = 0 ∨ pubErr h = 2 := by unfold pubErr; split <;> simp

theorem parsePublic_c (s : List UInt8) (hl : s.length ≤ 100000) (w : World) :
    Calls Tryz.prog 145 [str s].toArray w fun q w' => ∃ _ : Unit, True ∧ q = .returned (.tuple #[.agg (flat (pseg (pubHt s) (pubRt s))), .int .i64 (pubE s)]) ∧ Post w (blocksOf []) [] w' := by
  have hz : pubE s ≠ 0 → pubHt s = 0 ∧ pubRt s = B.zero 16 := fun h => ⟨if_neg h, if_neg h⟩
  generalize hdO : decO s = xs at *
  refine aJ (n := 46) (W := (blocksOf [])) (m := []) Tryz.func145 O Tryz.ntmps145 O (aO _ _ _) ?_
  simp only [SL.enum, Nat.reduceAdd]
  refine ah fun K1 hK1 => aj (am O (aX [Seg.one (.int .i64 0) rfl, (B.zero 16).seg] O O O (by kernel_rfl)) ?_)
  intro b2 _
  try simp only [setN, putD, selM, nth, cw, cx]
  refine aa O O O (ak O O) (ai ?_)
  refine ae (hK1 _ _ ?_)
  refine ah fun K2 hK2 => aj (aa O O O (af O O) ?_)
  refine am O (aM [] [0] O O (by kernel_rfl) O O O O (fun w hM hK => (by have h := open_c s hl w; rw [hdO] at h; exact h))) ?_
  intro ⟨br, da, dc⟩ hdc
  try simp only [setN, putD, selM, nth, cw, cx]
  dsimp only at hdc
  refine aa O O O (ak O O) (ai ?_)
  refine ae (hK2 _ _ ?_)
  refine ah fun K3 hK3 => ah fun K4 hK4 => aj (aa O O O (af O O) ?_)
  refine aa O O O (aZ O O) (aa O O O (au (k := 1) O O (by kernel_rfl) O) ?_)
  refine aa O O O (by first | exact al 0 O O O O (by kernel_rfl) | exact al 1 O O O O (by kernel_rfl) | exact al 2 O O O O (by kernel_rfl)) ?_
  refine aa O O O (bt O O O) (aa O O O (af O O) ?_)
  refine aR (d := 15) O (fun hg15 => ?_) (fun hg15 => ?_)
  · skip
    have he : decE s = 0 := by simpa using hg15
    have hE0 : pubE s = if xs.length < 17 then 4 else if 17 < xs.length then 5 else pubErr ((xs.getD 0 0).toNat : Int) := by rw [pubE, if_neg (by simpa using he), hdO]
    simp only [he]
    refine aq O O O O O O O (af O O) (aq O O O O O O O (aZ O O) ?_)
    refine aq O O O O O O O (au (k := 0) O O (by kernel_rfl) O) ?_
    refine aq O O O O O O O (by first | exact al 0 O O O O (by kernel_rfl) | exact al 1 O O O O (by kernel_rfl) | exact al 2 O O O O (by kernel_rfl)) ?_
    refine aq O O O O O O O (bw O O O Tryz.underlying52) (aq O O O O O O O (aT O O O) ?_)
    refine aa O O O (aF O O O) (ai ?_)
    refine ae (hK4 _ _ ?_)
    refine aH O (fun hc22 => ?_) (fun hc22 => ?_)
    · skip
      have h17 : xs.length < 17 := by simp at hc22; omega
      rw [if_pos h17] at hE0
      refine ah fun K5 hK5 => aj (aa O O O (bg [(0, 1), (1, 16)] [Seg.one (.int .i64 0) rfl, (B.zero 16).seg] O O .nil (by kernel_rfl) (by kernel_rfl) O) ?_)
      refine am O (by first | exact ap (k := 17) 0 _ O O O O O O (by kernel_rfl) O O | exact ap (k := 17) 1 _ O O O O O O (by kernel_rfl) O O | exact ap (k := 17) 2 _ O O O O O O (by kernel_rfl) O O) ?_
      intro _ _
      try simp only [setN, putD, selM, nth, cw, cx]
      refine aa O O O (ak O O) (ai ?_)
      refine ae (hK5 _ _ ?_)
      refine aw (aB av) (ar O (.cons (by first | exact SL.RV.cellA 0 (k := 17) O O (by kernel_rfl) O (by kernel_rfl) | exact SL.RV.cellA 1 (k := 17) O O (by kernel_rfl) O (by kernel_rfl) | exact SL.RV.cellA 2 (k := 17) O O (by kernel_rfl) O (by kernel_rfl)) (.cons (.tmp O) .nil)) O) (fun w' hM' hK' => ?_)
      exact ⟨(), trivial, by rw [hE0, (hz (by rw [hE0]; decide)).1, (hz (by rw [hE0]; decide)).2]; rfl, hK', hM'.sel [] rfl⟩
    · skip
      have h17 : ¬ xs.length < 17 := by simp at hc22; omega
      rw [if_neg h17] at hE0
      refine SL.Ok.rowAddr 1 O ?_
      rintro (⟨hsl, h0⟩ | ⟨rg, rc, hsl, hlc, hcm⟩)
      · omega
      simp only [Value.slice.injEq] at hsl
      obtain ⟨rfl, _, rfl⟩ := hsl
      have hcm' : dc ≤ maxLen := hcm
      refine aC (ae ?_)
      refine hK3 _ _ (ah fun K6 hK6 => ?_)
      refine aj (aa O O O (af O O) ?_)
      refine am O (aM [0] [1, 2] O O (by kernel_rfl) O O O O (fun w hM hK => takeOK_c br rg 0 xs.length dc 1 (by omega) hdc hcm' w (hM.sel [0] O).own)) ?_
      intro ad had
      try simp only [setN, putD, selM, nth, cw, cx]
      first | (obtain rfl := had (by omega)) | skip
      refine aa O O O (bx (sz := 1) O O O Tryz.underlying52 (by kernel_rfl) (by omega) (by omega) O) ?_
      refine aa O O O (by first | exact SL.Pure.loadC O O (by kernel_rfl) (fun w hM hK => (bK (i := 1) O hM).cell1 (i := 0) (by omega)) | exact ce 0 O O O (cn (B.zero 1) (by decide)) (by kernel_rfl)) ?_
      refine aa O O O (SL.Pure.conv8I O O (by kernel_rfl) Tryz.underlying3) ?_
      refine aa O O O (bg [(0, 1), (1, 16)] [Seg.one (.int .i64 0) rfl, (B.zero 16).seg] O O (.cons (.one O) .nil) (by kernel_rfl) (by kernel_rfl) O) ?_
      refine am O (aX [Seg.one (.int .i64 0) rfl, (B.zero 16).seg] O O O (by kernel_rfl)) ?_
      intro b5 _
      try simp only [setN, putD, selM, nth, cw, cx]
      refine am O (by first | exact ap (k := 17) 0 _ O O O O O O (by kernel_rfl) O O | exact ap (k := 17) 1 _ O O O O O O (by kernel_rfl) O O | exact ap (k := 17) 2 _ O O O O O O (by kernel_rfl) O O | exact ap (k := 17) 3 _ O O O O O O (by kernel_rfl) O O) ?_
      intro _ _
      try simp only [setN, putD, selM, nth, cw, cx]
      refine ai (ae ?_)
      refine hK6 _ _ (ah fun K7 hK7 => ?_)
      refine aj (aa O O O (af O O) ?_)
      refine am O (aM [1, 2] [0, 3] O O (by kernel_rfl) O O O O (fun w hM hK => valueOK_c br rg 1 (xs.length - 1) (dc - 1) xs.length dc xs (by omega) (by omega) (Nat.le_trans (Nat.sub_le _ _) hcm') (by omega) w (hM.sel [1, 2] O).own)) ?_
      intro ad2 had2
      try simp only [setN, putD, selM, nth, cw, cx]
      refine aa O O O (au (k := 1) O O (by kernel_rfl) O) ?_
      refine am O (by first | exact ap (k := 16) 0 _ O O O O O O (by kernel_rfl) O O | exact ap (k := 16) 1 _ O O O O O O (by kernel_rfl) O O | exact ap (k := 16) 2 _ O O O O O O (by kernel_rfl) O O | exact ap (k := 16) 3 _ O O O O O O (by kernel_rfl) O O) ?_
      intro _ _
      try simp only [setN, putD, selM, nth, cw, cx]
      refine ai (ae ?_)
      refine hK7 _ _ (ah fun K8 hK8 => ?_)
      refine ah fun K9 hK9 => aj (aa O O O (af O O) ?_)
      refine am O (aM [0] [1, 2, 3] O O (by kernel_rfl) O O O O (fun w hM hK => rend_c br (xs.length - 1 - 16) (dc - 1 - 16) (some ad2) 0 w (hM.sel [0] O).own)) ?_
      intro _ _
      try simp only [setN, putD, selM, nth, cw, cx]
      first
        | have hend : endE 0 (xs.length - 1 - 16) = if 17 < xs.length then 5 else 0 := by
            by_cases h : 17 < xs.length
            · rw [if_pos h]; exact if_pos ⟨rfl, by omega⟩
            · rw [if_neg h]; exact if_neg (fun h' => h (by omega))
          simp only [hend]
        | have hend : endE (decE s) xs.length = decE s := if_neg (fun h => he h.1)
          simp only [hend]
      refine aa O O O (ak O O) (ai ?_)
      refine ae (hK9 _ _ ?_)
      refine ah fun K10 hK10 => aj (aa O O O (af O O) ?_)
      refine aa O O O (bl O O O) (ai ?_)
      refine ae (hK10 _ _ ?_)
      refine aH O (fun hc36 => ?_) (fun hc36 => ?_)
      · skip
        first
          | have hL : 17 < xs.length := by
              by_cases h : 17 < xs.length
              · exact h
              · rw [if_neg h] at hc36; simp at hc36
            have hE : pubE s = 5 := by rw [hE0, if_pos hL]
          | skip
        refine ah fun K11 hK11 => aj (aa O O O (bg [(0, 1), (1, 16)] [Seg.one (.int .i64 0) rfl, (B.zero 16).seg] O O .nil (by kernel_rfl) (by kernel_rfl) O) ?_)
        refine aa O O O (af O O) (am O (by first | exact ap (k := 17) 0 _ O O O O O O (by kernel_rfl) O O | exact ap (k := 17) 1 _ O O O O O O (by kernel_rfl) O O | exact ap (k := 17) 2 _ O O O O O O (by kernel_rfl) O O | exact ap (k := 17) 3 _ O O O O O O (by kernel_rfl) O O) ?_)
        intro _ _
        try simp only [setN, putD, selM, nth, cw, cx]
        refine aa O O O (ak O O) (ai ?_)
        refine ae (hK11 _ _ ?_)
        refine aw (aB av) (ar O (.cons (by first | exact SL.RV.cellA 0 (k := 17) O O (by kernel_rfl) O (by kernel_rfl) | exact SL.RV.cellA 1 (k := 17) O O (by kernel_rfl) O (by kernel_rfl) | exact SL.RV.cellA 2 (k := 17) O O (by kernel_rfl) O (by kernel_rfl) | exact SL.RV.cellA 3 (k := 17) O O (by kernel_rfl) O (by kernel_rfl)) (.cons (.tmp O) .nil)) O) (fun w' hM' hK' => ?_)
        exact ⟨(), trivial, by first | (rw [(hz (by rw [hE]; exact he)).1, (hz (by rw [hE]; exact he)).2, hE]; rfl) | (rw [(hz (by rw [hE]; decide)).1, (hz (by rw [hE]; decide)).2, hE, if_pos hL]; rfl), hK', hM'.sel [] rfl⟩
      · skip
        first
          | have hF : False := he (by simpa using hc36)
          | have hL : ¬ 17 < xs.length := fun h => by rw [if_pos h] at hc36; simp at hc36
            rw [if_neg hL] at hE0
        refine aC (ae ?_)
        refine hK8 _ _ (ah fun K12 hK12 => ?_)
        refine ah fun K13 hK13 => aj (aa O O O (by first | exact ay 0 (k := 17) O O O (by kernel_rfl) O (by kernel_rfl) | exact ay 1 (k := 17) O O O (by kernel_rfl) O (by kernel_rfl) | exact ay 2 (k := 17) O O O (by kernel_rfl) O (by kernel_rfl) | exact ay 3 (k := 17) O O O (by kernel_rfl) O (by kernel_rfl)) ?_)
        refine am O (aN O O (by kernel_rfl) O O (fun w hM hK => pcheck_c _ _ w)) ?_
        intro _ _
        try simp only [setN, putD, selM, nth, cw, cx]
        refine aa O O O (ak O O) (ai ?_)
        refine ae (hK13 _ _ ?_)
        refine ah fun K14 hK14 => aj (aa O O O (af O O) ?_)
        refine aa O O O (bl O O O) (ai ?_)
        refine ae (hK14 _ _ ?_)
        refine aH O (fun hc42 => ?_) (fun hc42 => ?_)
        · skip
          first
            | have hp : pubErr ((xs.getD 0 0).toNat : Int) ≠ 0 := by simpa [-List.getD_eq_getElem?_getD] using hc42
            | skip
          refine ah fun K15 hK15 => aj (aa O O O (bg [(0, 1), (1, 16)] [Seg.one (.int .i64 0) rfl, (B.zero 16).seg] O O .nil (by kernel_rfl) (by kernel_rfl) O) ?_)
          refine aa O O O (af O O) (am O (by first | exact ap (k := 17) 0 _ O O O O O O (by kernel_rfl) O O | exact ap (k := 17) 1 _ O O O O O O (by kernel_rfl) O O | exact ap (k := 17) 2 _ O O O O O O (by kernel_rfl) O O | exact ap (k := 17) 3 _ O O O O O O (by kernel_rfl) O O) ?_)
          intro _ _
          try simp only [setN, putD, selM, nth, cw, cx]
          refine aa O O O (ak O O) (ai ?_)
          refine ae (hK15 _ _ ?_)
          refine aw (aB av) (ar O (.cons (by first | exact SL.RV.cellA 0 (k := 17) O O (by kernel_rfl) O (by kernel_rfl) | exact SL.RV.cellA 1 (k := 17) O O (by kernel_rfl) O (by kernel_rfl) | exact SL.RV.cellA 2 (k := 17) O O (by kernel_rfl) O (by kernel_rfl) | exact SL.RV.cellA 3 (k := 17) O O (by kernel_rfl) O (by kernel_rfl)) (.cons (.tmp O) .nil)) O) (fun w' hM' hK' => ?_)
          first
            | exact hF.elim
            | exact ⟨(), trivial, by rw [(hz (by rw [hE0]; exact hp)).1, (hz (by rw [hE0]; exact hp)).2, hE0]; rfl, hK', hM'.sel [] rfl⟩
        · skip
          first
            | have hp : pubErr ((xs.getD 0 0).toNat : Int) = 0 := by simpa [-List.getD_eq_getElem?_getD] using hc42
            | skip
          refine aC (ae ?_)
          refine hK12 _ _ (ah fun K16 hK16 => ?_)
          refine aj (aa O O O (by first | exact ay 0 (k := 17) O O O (by kernel_rfl) O (by kernel_rfl) | exact ay 1 (k := 17) O O O (by kernel_rfl) O (by kernel_rfl) | exact ay 2 (k := 17) O O O (by kernel_rfl) O (by kernel_rfl) | exact ay 3 (k := 17) O O O (by kernel_rfl) O (by kernel_rfl)) ?_)
          refine am O (by first | exact ap (k := 17) 0 _ O O O O O O (by kernel_rfl) O O | exact ap (k := 17) 1 _ O O O O O O (by kernel_rfl) O O | exact ap (k := 17) 2 _ O O O O O O (by kernel_rfl) O O | exact ap (k := 17) 3 _ O O O O O O (by kernel_rfl) O O) ?_
          intro _ _
          try simp only [setN, putD, selM, nth, cw, cx]
          refine aa O O O (ak O O) (ai ?_)
          refine ae (hK16 _ _ ?_)
          refine aw av (ar O (.cons (by first | exact SL.RV.cellA 0 (k := 17) O O (by kernel_rfl) O (by kernel_rfl) | exact SL.RV.cellA 1 (k := 17) O O (by kernel_rfl) O (by kernel_rfl) | exact SL.RV.cellA 2 (k := 17) O O (by kernel_rfl) O (by kernel_rfl) | exact SL.RV.cellA 3 (k := 17) O O (by kernel_rfl) O (by kernel_rfl)) (.cons (.tmp O) .nil)) O) (fun w' hM' hK' => ?_)
          first
            | exact hF.elim
            | exact ⟨(), trivial, by rw [pubHt, pubRt, hE0, hp, if_pos rfl, if_pos rfl, hdO]; rfl, hK', hM'.sel [] rfl⟩
  · skip
    have he : decE s ≠ 0 := by simpa using hg15
    have hE : pubE s = decE s := if_pos he
    refine ag O O O O O O O (ag O O O O O O O ?_)
    refine ag O O O O O O O (ag O O O O O O O ?_)
    refine ag O O O O O O O (ag O O O O O O O ?_)
    refine aa O O O (aE O O O) (ai ?_)
    refine ae (hK4 _ _ ?_)
    refine bq O (aC ?_)
    refine ae (hK3 _ _ ?_)
    refine ah fun K17 hK17 => aj (aa O O O (af O O) ?_)
    refine am O (aM [0] [1, 2] O O (by kernel_rfl) O O O O (fun w hM hK => takeBad_c br xs.length dc 1 da (decE s) he (by decide) (by decide) w (hM.sel [0] O).own)) ?_
    intro gz _
    try simp only [setN, putD, selM, nth, cw, cx]
    first | (obtain rfl := had (by omega)) | skip
    refine aa O O O (bx (sz := 1) O O O Tryz.underlying52 (by kernel_rfl) (by omega) (by omega) O) ?_
    refine aa O O O (by first | exact SL.Pure.loadC O O (by kernel_rfl) (fun w hM hK => (bK (i := 1) O hM).cell1 (i := 0) (by omega)) | exact ce 0 O O O (cn (B.zero 1) (by decide)) (by kernel_rfl)) ?_
    refine aa O O O (SL.Pure.conv8I O O (by kernel_rfl) Tryz.underlying3) ?_
    refine aa O O O (bg [(0, 1), (1, 16)] [Seg.one (.int .i64 0) rfl, (B.zero 16).seg] O O (.cons (.one O) .nil) (by kernel_rfl) (by kernel_rfl) O) ?_
    refine am O (aX [Seg.one (.int .i64 0) rfl, (B.zero 16).seg] O O O (by kernel_rfl)) ?_
    intro b5 _
    try simp only [setN, putD, selM, nth, cw, cx]
    refine am O (by first | exact ap (k := 17) 0 _ O O O O O O (by kernel_rfl) O O | exact ap (k := 17) 1 _ O O O O O O (by kernel_rfl) O O | exact ap (k := 17) 2 _ O O O O O O (by kernel_rfl) O O | exact ap (k := 17) 3 _ O O O O O O (by kernel_rfl) O O | exact ap (k := 17) 4 _ O O O O O O (by kernel_rfl) O O) ?_
    intro _ _
    try simp only [setN, putD, selM, nth, cw, cx]
    refine ai (ae ?_)
    refine hK17 _ _ (ah fun K18 hK18 => ?_)
    refine aj (aa O O O (af O O) ?_)
    refine am O (aM [2] [0, 1, 3, 4] O O (by kernel_rfl) O O O O (fun w hM hK => valueBad_c br xs.length dc da (decE s) he w (hM.sel [2] O).own)) ?_
    intro _ _
    try simp only [setN, putD, selM, nth, cw, cx]
    refine aa O O O (au (k := 1) O O (by kernel_rfl) O) ?_
    refine am O (by first | exact ap (k := 16) 0 _ O O O O O O (by kernel_rfl) O O | exact ap (k := 16) 1 _ O O O O O O (by kernel_rfl) O O | exact ap (k := 16) 2 _ O O O O O O (by kernel_rfl) O O | exact ap (k := 16) 3 _ O O O O O O (by kernel_rfl) O O | exact ap (k := 16) 4 _ O O O O O O (by kernel_rfl) O O) ?_
    intro _ _
    try simp only [setN, putD, selM, nth, cw, cx]
    refine ai (ae ?_)
    refine hK18 _ _ (ah fun K19 hK19 => ?_)
    refine ah fun K20 hK20 => aj (aa O O O (af O O) ?_)
    refine am O (aM [0] [1, 2, 3, 4] O O (by kernel_rfl) O O O O (fun w hM hK => rend_c br xs.length dc da (decE s) w (hM.sel [0] O).own)) ?_
    intro _ _
    try simp only [setN, putD, selM, nth, cw, cx]
    first
      | have hend : endE 0 (xs.length - 1 - 16) = if 17 < xs.length then 5 else 0 := by
          by_cases h : 17 < xs.length
          · rw [if_pos h]; exact if_pos ⟨rfl, by omega⟩
          · rw [if_neg h]; exact if_neg (fun h' => h (by omega))
        simp only [hend]
      | have hend : endE (decE s) xs.length = decE s := if_neg (fun h => he h.1)
        simp only [hend]
    refine aa O O O (ak O O) (ai ?_)
    refine ae (hK20 _ _ ?_)
    refine ah fun K21 hK21 => aj (aa O O O (af O O) ?_)
    refine aa O O O (bl O O O) (ai ?_)
    refine ae (hK21 _ _ ?_)
    refine aH O (fun hc36 => ?_) (fun hc36 => ?_)
    · skip
      first
        | have hL : 17 < xs.length := by
            by_cases h : 17 < xs.length
            · exact h
            · rw [if_neg h] at hc36; simp at hc36
          have hE : pubE s = 5 := by rw [hE0, if_pos hL]
        | skip
      refine ah fun K22 hK22 => aj (aa O O O (bg [(0, 1), (1, 16)] [Seg.one (.int .i64 0) rfl, (B.zero 16).seg] O O .nil (by kernel_rfl) (by kernel_rfl) O) ?_)
      refine aa O O O (af O O) (am O (by first | exact ap (k := 17) 0 _ O O O O O O (by kernel_rfl) O O | exact ap (k := 17) 1 _ O O O O O O (by kernel_rfl) O O | exact ap (k := 17) 2 _ O O O O O O (by kernel_rfl) O O | exact ap (k := 17) 3 _ O O O O O O (by kernel_rfl) O O | exact ap (k := 17) 4 _ O O O O O O (by kernel_rfl) O O) ?_)
      intro _ _
      try simp only [setN, putD, selM, nth, cw, cx]
      refine aa O O O (ak O O) (ai ?_)
      refine ae (hK22 _ _ ?_)
      refine aw (aB av) (ar O (.cons (by first | exact SL.RV.cellA 0 (k := 17) O O (by kernel_rfl) O (by kernel_rfl) | exact SL.RV.cellA 1 (k := 17) O O (by kernel_rfl) O (by kernel_rfl) | exact SL.RV.cellA 2 (k := 17) O O (by kernel_rfl) O (by kernel_rfl) | exact SL.RV.cellA 3 (k := 17) O O (by kernel_rfl) O (by kernel_rfl) | exact SL.RV.cellA 4 (k := 17) O O (by kernel_rfl) O (by kernel_rfl)) (.cons (.tmp O) .nil)) O) (fun w' hM' hK' => ?_)
      exact ⟨(), trivial, by first | (rw [(hz (by rw [hE]; exact he)).1, (hz (by rw [hE]; exact he)).2, hE]; rfl) | (rw [(hz (by rw [hE]; decide)).1, (hz (by rw [hE]; decide)).2, hE, if_pos hL]; rfl), hK', hM'.sel [] rfl⟩
    · skip
      first
        | have hF : False := he (by simpa using hc36)
        | have hL : ¬ 17 < xs.length := fun h => by rw [if_pos h] at hc36; simp at hc36
          rw [if_neg hL] at hE0
      refine aC (ae ?_)
      refine hK19 _ _ (ah fun K23 hK23 => ?_)
      refine ah fun K24 hK24 => aj (aa O O O (by first | exact ay 0 (k := 17) O O O (by kernel_rfl) O (by kernel_rfl) | exact ay 1 (k := 17) O O O (by kernel_rfl) O (by kernel_rfl) | exact ay 2 (k := 17) O O O (by kernel_rfl) O (by kernel_rfl) | exact ay 3 (k := 17) O O O (by kernel_rfl) O (by kernel_rfl) | exact ay 4 (k := 17) O O O (by kernel_rfl) O (by kernel_rfl)) ?_)
      refine am O (aN O O (by kernel_rfl) O O (fun w hM hK => pcheck_c _ _ w)) ?_
      intro _ _
      try simp only [setN, putD, selM, nth, cw, cx]
      refine aa O O O (ak O O) (ai ?_)
      refine ae (hK24 _ _ ?_)
      refine ah fun K25 hK25 => aj (aa O O O (af O O) ?_)
      refine aa O O O (bl O O O) (ai ?_)
      refine ae (hK25 _ _ ?_)
      refine aH O (fun hc42 => ?_) (fun hc42 => ?_)
      · skip
        first
          | have hp : pubErr ((xs.getD 0 0).toNat : Int) ≠ 0 := by simpa [-List.getD_eq_getElem?_getD] using hc42
          | skip
        refine ah fun K26 hK26 => aj (aa O O O (bg [(0, 1), (1, 16)] [Seg.one (.int .i64 0) rfl, (B.zero 16).seg] O O .nil (by kernel_rfl) (by kernel_rfl) O) ?_)
        refine aa O O O (af O O) (am O (by first | exact ap (k := 17) 0 _ O O O O O O (by kernel_rfl) O O | exact ap (k := 17) 1 _ O O O O O O (by kernel_rfl) O O | exact ap (k := 17) 2 _ O O O O O O (by kernel_rfl) O O | exact ap (k := 17) 3 _ O O O O O O (by kernel_rfl) O O | exact ap (k := 17) 4 _ O O O O O O (by kernel_rfl) O O) ?_)
        intro _ _
        try simp only [setN, putD, selM, nth, cw, cx]
        refine aa O O O (ak O O) (ai ?_)
        refine ae (hK26 _ _ ?_)
        refine aw (aB av) (ar O (.cons (by first | exact SL.RV.cellA 0 (k := 17) O O (by kernel_rfl) O (by kernel_rfl) | exact SL.RV.cellA 1 (k := 17) O O (by kernel_rfl) O (by kernel_rfl) | exact SL.RV.cellA 2 (k := 17) O O (by kernel_rfl) O (by kernel_rfl) | exact SL.RV.cellA 3 (k := 17) O O (by kernel_rfl) O (by kernel_rfl) | exact SL.RV.cellA 4 (k := 17) O O (by kernel_rfl) O (by kernel_rfl)) (.cons (.tmp O) .nil)) O) (fun w' hM' hK' => ?_)
        first
          | exact hF.elim
          | exact ⟨(), trivial, by rw [(hz (by rw [hE0]; exact hp)).1, (hz (by rw [hE0]; exact hp)).2, hE0]; rfl, hK', hM'.sel [] rfl⟩
      · skip
        first
          | have hp : pubErr ((xs.getD 0 0).toNat : Int) = 0 := by simpa [-List.getD_eq_getElem?_getD] using hc42
          | skip
        refine aC (ae ?_)
        refine hK23 _ _ (ah fun K27 hK27 => ?_)
        refine aj (aa O O O (by first | exact ay 0 (k := 17) O O O (by kernel_rfl) O (by kernel_rfl) | exact ay 1 (k := 17) O O O (by kernel_rfl) O (by kernel_rfl) | exact ay 2 (k := 17) O O O (by kernel_rfl) O (by kernel_rfl) | exact ay 3 (k := 17) O O O (by kernel_rfl) O (by kernel_rfl) | exact ay 4 (k := 17) O O O (by kernel_rfl) O (by kernel_rfl)) ?_)
        refine am O (by first | exact ap (k := 17) 0 _ O O O O O O (by kernel_rfl) O O | exact ap (k := 17) 1 _ O O O O O O (by kernel_rfl) O O | exact ap (k := 17) 2 _ O O O O O O (by kernel_rfl) O O | exact ap (k := 17) 3 _ O O O O O O (by kernel_rfl) O O | exact ap (k := 17) 4 _ O O O O O O (by kernel_rfl) O O) ?_
        intro _ _
        try simp only [setN, putD, selM, nth, cw, cx]
        refine aa O O O (ak O O) (ai ?_)
        refine ae (hK27 _ _ ?_)
        refine aw av (ar O (.cons (by first | exact SL.RV.cellA 0 (k := 17) O O (by kernel_rfl) O (by kernel_rfl) | exact SL.RV.cellA 1 (k := 17) O O (by kernel_rfl) O (by kernel_rfl) | exact SL.RV.cellA 2 (k := 17) O O (by kernel_rfl) O (by kernel_rfl) | exact SL.RV.cellA 3 (k := 17) O O (by kernel_rfl) O (by kernel_rfl) | exact SL.RV.cellA 4 (k := 17) O O (by kernel_rfl) O (by kernel_rfl)) (.cons (.tmp O) .nil)) O) (fun w' hM' hK' => ?_)
        first
          | exact hF.elim
          | exact ⟨(), trivial, by rw [pubHt, pubRt, hE0, hp, if_pos rfl, if_pos rfl, hdO]; rfl, hK', hM'.sel [] rfl⟩
end Go.Proofs.YthfhhkanpnemcaaGreatDoor
namespace Go.Proofs.YthfhhkanpnemcaaGreatDoor
open Go.SL Go.RowKit IntWalk
set_option linter.unusedVariables false
set_option maxRecDepth 100000
set_option linter.unusedSimpArgs false
set_option maxHeartbeats 400000

theorem targR_at {s : List UInt8} {r : Rd} (h : r.at_ ≤ s.length) : (targR s r).at_ ≤ s.length := by rw [targR, wantM_at, wantM_at]; exact wordR_at h
theorem grpR_at {s : List UInt8} {r : Rd} (h : r.at_ ≤ s.length) : (grpR s r).at_ ≤ s.length := by rw [grpR, wantM_at]; exact wordR_at h
theorem numR_at {s : List UInt8} {r : Rd} {lo hi : Int} (h : r.at_ ≤ s.length) : (numR s r lo hi).at_ ≤ s.length := by rw [numR, wantM_at, wantM_at]; exact wordR_at h
theorem modR_at {s : List UInt8} {r : Rd} (h : r.at_ ≤ s.length) : (modR s r).at_ ≤ s.length := by rw [modR, wantM_at, modsR_at]; exact wordR_at h

structure Cmd where
 kind : Int
 tgt : B 32
 grp : List UInt8
 ver : Int
 md : Bool
 ma : Option Addr
 ml : Nat
 mc : Nat
 txt : List UInt8
 num : Int
 ht : Int
 rt : B 16
abbrev cmdS (c : Cmd) : List Seg := [Seg.one (.int .i64 c.kind) rfl, c.tgt.seg, Seg.one (str c.grp) rfl, Seg.one (.int .i64 c.ver) rfl, Seg.one (.bool c.md) rfl, Seg.one (.slice c.ma c.ml c.mc) rfl, Seg.one (str c.txt) rfl, Seg.one (.int .i64 c.num) rfl, Seg.one (.int .i64 c.ht) rfl, c.rt.seg]
abbrev cmdO (c : Cmd) : Obj := .cells (flat (cmdS c)) 120 (0, 0)
def cmd0 (k : Int) : Cmd := ⟨k, B.zero 32, [], 0, false, none, 0, 0, [], 0, 0, B.zero 16⟩

abbrev openT : List UInt8 := [111, 112, 101, 110]
abbrev modT : List UInt8 := [109, 111, 100, 101, 114, 97, 116, 101, 100]
/-- behind the word for the mode -/
def modeR (s : List UInt8) (r : Rd) : Rd := if wordW s r = openT then wordR s r else if wordW s r = modT then modR s (wordR s r) else wantM (wordR s r) false 3
def txtR (s : List UInt8) (r : Rd) : Rd := wantM (wantM ⟨-1, r.at_, r.bad, r.e⟩ (!decide (s.drop r.at_.toNat = [])) 4) (txE (s.drop r.at_.toNat) == 0) (txE (s.drop r.at_.toNat))
def defR (s : List UInt8) (r : Rd) : Rd := if (modeR s (numR s (grpR s r) 0 1000000)).e ≠ 0 ∨ (modeR s (numR s (grpR s r) 0 1000000)).at_ < 0 then modeR s (numR s (grpR s r) 0 1000000) else txtR s (modeR s (numR s (grpR s r) 0 1000000))
theorem modeR_at {s : List UInt8} {r : Rd} (h : r.at_ ≤ s.length) : (modeR s r).at_ ≤ s.length := by
 unfold modeR
 split
 ·
  exact wordR_at h
 ·
  split
  ·
   exact modR_at (wordR_at h)
  ·
   rw [wantM_at]; exact wordR_at h

theorem define_c (b bc : Nat) (s : List UInt8) (r : Rd) (c : Cmd) (hs : s.length ≤ 100000) (hr : r.at_ ≤ s.length) (hb : 6 ≤ b) (hbc : 6 ≤ bc) (w : World) (hG : Glob w) (hm : Mem (blocksOf [.blk b (rdO s r), .blk bc (cmdO c)]) w [.blk b (rdO s r), .blk bc (cmdO c)] w) :
  Calls Tryz.prog 119 [.pointer (some ⟨b, 0, none⟩), .pointer (some ⟨bc, 0, none⟩)].toArray w fun q w' => ∃ c' : Cmd, True ∧ q = .returned (.tuple #[]) ∧ Post w (blocksOf [.blk b (rdO s r), .blk bc (cmdO c)]) [.blk b (rdO s (defR s r)), .blk bc (cmdO c')] w' := by
 have hB : ∀ r' ∈ [Res.blk b (rdO s r), Res.blk bc (cmdO c)], ∀ k, r'.block = some k → 6 ≤ k := by
  intro r' hr' k hk
  simp only [List.mem_cons, List.not_mem_nil, or_false] at hr'
  rcases hr' with rfl | rfl <;> simp only [Res.block, Option.some.injEq] at hk <;> omega
 have ha1 := grpR_at hr
 have ha2 := numR_at (lo := 0) (hi := 1000000) ha1
 have ha3 := wordR_at ha2
 have ha4 := modeR_at ha2
 refine aJ (n := 82) (W := (blocksOf [.blk b (rdO s r), .blk bc (cmdO c)])) (m := [.blk b (rdO s r), .blk bc (cmdO c)]) Tryz.func119 O Tryz.ntmps119 O hm ?_
 simp only [SL.enum, Nat.reduceAdd]
 refine ah fun K1 hK1 => aj (aa O O O (af O O) ?_)
 refine aa O O O (af O O) (aa O O O (af O O) ?_)
 refine am O (aM [0] [1] O O (by kernel_rfl) O O O O (fun w hM hK => group_c b s r hs hr hb w (hG.keepM hK hB) (hM.sel [0] O).own)) ?_
 intro _ _
 try simp only [setN, putD, selM, nth, cw, cx]
 refine aa O O O (af O O) (am O (aM [0] [1] O O (by kernel_rfl) O O O O (fun w hM hK => number_c b s (grpR s r) 0 1000000 hs ha1 hb w (hG.keepM hK hB) (hM.sel [0] O).own)) ?_)
 intro _ _
 try simp only [setN, putD, selM, nth, cw, cx]
 refine aa O O O (aZ O O) (aa O O O (au (k := 33) O O (by kernel_rfl) O) ?_)
 refine am O (by first | exact ap (k := 1) 0 [SL.Seg.one _ rfl] O O O O O O (by kernel_rfl) O O | exact ap (k := 1) 1 [SL.Seg.one _ rfl] O O O O O O (by kernel_rfl) O O) ?_
 intro _ _
 try simp only [setN, putD, selM, nth, cw, cx]
 refine aa O O O (aZ O O) (aa O O O (au (k := 34) O O (by kernel_rfl) O) ?_)
 refine am O (by first | exact ap (k := 1) 0 [SL.Seg.one _ rfl] O O O O O O (by kernel_rfl) O O | exact ap (k := 1) 1 [SL.Seg.one _ rfl] O O O O O O (by kernel_rfl) O O) ?_
 intro _ _
 try simp only [setN, putD, selM, nth, cw, cx]
 refine ai (ae ?_)
 refine hK1 _ _ (ah fun K2 hK2 => ?_)
 refine ah fun K3 hK3 => aj (aa O O O (af O O) ?_)
 refine am O (aM [0] [1] O O (by kernel_rfl) O O O O (fun w hM hK => word_c b s (numR s (grpR s r) 0 1000000) hs ha2 hb w (hG.keepM hK hB) (hM.sel [0] O).own)) ?_
 intro _ _
 try simp only [setN, putD, selM, nth, cw, cx]
 refine ai (ae ?_)
 refine hK3 _ _ (aK ?_)
 refine cq (X := (Rd × Cmd)) (φ := fun X => X.1 = modeR s (numR s (grpR s r) 0 1000000)) (L := fun X => [(0, .pointer (some ⟨b, 0, none⟩)), (1, .pointer (some ⟨bc, 0, none⟩))]) (M := fun X => [.blk b (rdO s X.1), .blk bc (cmdO X.2)]) ?_ (fun hJr3 => ?_)
 ·
  intro ⟨r4, c4⟩ hr4
  try dsimp only
  refine aQ (ae ?_)
  refine hK2 _ _ (ah fun K4 hK4 => ?_)
  refine ah fun K5 hK5 => aj (aa O O O (af O O) ?_)
  refine aa O O O (aZ O O) (aa O O O (au (k := 4) O O (by kernel_rfl) O) ?_)
  refine aa O O O (by first | exact al 0 O O O O (by kernel_rfl) | exact al 1 O O O O (by kernel_rfl)) ?_
  refine aa O O O (bl O O O) (aa O O O (af O O) ?_)
  refine aR (d := 36) O (fun hg36 => ?_) (fun hg36 => ?_)
  ·
   have he : r4.e ≠ 0 := by simpa using hg36
   have hD : defR s r = r4 := by rw [defR, ← show r4 = _ from hr4]; exact if_pos (.inl he)
   refine ag O O O O O O O (ag O O O O O O O ?_)
   refine ag O O O O O O O (ag O O O O O O O ?_)
   refine ag O O O O O O O (aa O O O (aF O O O) ?_)
   refine ai (ae ?_)
   refine hK5 _ _ (bk O ?_)
   refine aw (aB av) (ar O .nil O) (fun w' hM' hK' => ?_)
   exact ⟨c4, trivial, rfl, hK', by rw [hD]; exact hM'.sel [0, 1] rfl⟩
  ·
   have he : ¬ r4.e ≠ 0 := by simpa using hg36
   refine aq O O O O O O O (af O O) (aq O O O O O O O (aZ O O) ?_)
   refine aq O O O O O O O (au (k := 1) O O (by kernel_rfl) O) ?_
   refine aq O O O O O O O (by first | exact al 0 O O O O (by kernel_rfl) | exact al 1 O O O O (by kernel_rfl)) ?_
   refine aq O O O O O O O (aT O O O) (aa O O O (aE O O O) ?_)
   refine ai (ae ?_)
   refine hK5 _ _ (aH O (fun hc42 => ?_) (fun hc42 => ?_))
   ·
    have hat : r4.at_ < 0 := by simpa using hc42
    have hD : defR s r = r4 := by rw [defR, ← show r4 = _ from hr4]; exact if_pos (.inr hat)
    refine aw (aB av) (ar O .nil O) (fun w' hM' hK' => ?_)
    exact ⟨c4, trivial, rfl, hK', by rw [hD]; exact hM'.sel [0, 1] rfl⟩
   ·
    have hat : ¬ r4.at_ < 0 := by simpa using hc42
    have hD : defR s r = txtR s r4 := by rw [defR, ← show r4 = _ from hr4]; exact if_neg (by rintro (h | h); exact he h; exact hat h)
    rw [← show r4 = _ from hr4] at ha4
    refine aC (ae ?_)
    refine hK4 _ _ (ah fun K6 hK6 => ?_)
    refine aj (aa O O O (af O O) ?_)
    refine aa O O O (af O O) (aa O O O (aZ O O) ?_)
    refine aa O O O (au (k := 1) O O (by kernel_rfl) O) ?_
    refine aa O O O (by first | exact al 0 O O O O (by kernel_rfl) | exact al 1 O O O O (by kernel_rfl)) ?_
    refine aa O O O (aZ O O) (aa O O O (au (k := 2) O O (by kernel_rfl) O) ?_)
    refine am O (by first | exact ap (k := 1) 0 [SL.Seg.one _ rfl] O O O O O O (by kernel_rfl) O O | exact ap (k := 1) 1 [SL.Seg.one _ rfl] O O O O O O (by kernel_rfl) O O) ?_
    intro _ _
    try simp only [setN, putD, selM, nth, cw, cx]
    refine ai (ae ?_)
    refine hK6 _ _ (ah fun K7 hK7 => ?_)
    refine bX 12 mixed (by kernel_rfl) O O (fun wd9 => ?_)
    refine aD O O O (af O O) (aD O O O (af O O) ?_)
    refine aD O O O (aZ O O) (aD O O O (au (k := 0) O O (by kernel_rfl) O) ?_)
    refine aD O O O (by first | exact al 0 O O O O (by kernel_rfl) | exact al 1 O O O O (by kernel_rfl)) ?_
    refine aD O O O (af O O) (aD O O O (aZ O O) ?_)
    refine aD O O O (au (k := 1) O O (by kernel_rfl) O) ?_
    refine aD O O O (by first | exact al 0 O O O O (by kernel_rfl) | exact al 1 O O O O (by kernel_rfl)) ?_
    refine aD O O O (SL.Pure.sliceSTo (r := s.drop r4.at_.toNat) O O Tryz.underlying9 O O (by omega) (by omega) (by omega) (by simp)) ?_
    refine aD O O O (aZ O O) (aD O O O (au (k := 37) O O (by kernel_rfl) O) ?_)
    refine bV (am O (by first | exact ap (k := 1) 0 [SL.Seg.one _ rfl] O O O O O O (by kernel_rfl) O O | exact ap (k := 1) 1 [SL.Seg.one _ rfl] O O O O O O (by kernel_rfl) O O) ?_)
    intro _ _
    try simp only [setN, putD, selM, nth, cw, cx]
    refine ai (ae ?_)
    refine hK7 _ _ (ah fun K8 hK8 => ?_)
    refine aj (aa O O O (af O O) ?_)
    refine aa O O O (aZ O O) (aa O O O (au (k := 1) O O (by kernel_rfl) O) ?_)
    refine am O (by first | exact ap (k := 1) 0 [SL.Seg.one _ rfl] O O O O O O (by kernel_rfl) O O | exact ap (k := 1) 1 [SL.Seg.one _ rfl] O O O O O O (by kernel_rfl) O O) ?_
    intro _ _
    try simp only [setN, putD, selM, nth, cw, cx]
    refine ai (ae ?_)
    refine hK8 _ _ (ah fun K9 hK9 => ?_)
    refine aj (aa O O O (af O O) ?_)
    refine aa O O O (af O O) (aa O O O (aZ O O) ?_)
    refine aa O O O (au (k := 37) O O (by kernel_rfl) O) ?_
    refine aa O O O (by first | exact al 0 O O O O (by kernel_rfl) | exact al 1 O O O O (by kernel_rfl)) ?_
    refine aa O O O (SL.Pure.neS O O O) (am O (aM [0] [1] O O (by kernel_rfl) O O O O (fun w hM hK => want_c b s ⟨-1, r4.at_, r4.bad, r4.e⟩ (!decide (s.drop r4.at_.toNat = [])) 4 w (hM.sel [0] O).own)) ?_)
    intro _ _
    try simp only [setN, putD, selM, nth, cw, cx]
    refine ai (ae ?_)
    refine hK9 _ _ (ah fun K10 hK10 => ?_)
    refine aj (aa O O O (af O O) ?_)
    refine aa O O O (aZ O O) (aa O O O (au (k := 37) O O (by kernel_rfl) O) ?_)
    refine aa O O O (by first | exact al 0 O O O O (by kernel_rfl) | exact al 1 O O O O (by kernel_rfl)) ?_
    refine am O (aN O O (by kernel_rfl) O O (fun w hM hK => checkText_c (s.drop r4.at_.toNat) (by simp; omega) w)) ?_
    intro _ _
    try simp only [setN, putD, selM, nth, cw, cx]
    refine aa O O O (ak O O) (ai ?_)
    refine ae (hK10 _ _ ?_)
    refine aj (aa O O O (af O O) ?_)
    refine aa O O O (af O O) (aa O O O (bt O O O) ?_)
    refine aa O O O (af O O) (am O (aM [0] [1] O O (by kernel_rfl) O O O O (fun w hM hK => want_c b s (wantM ⟨-1, r4.at_, r4.bad, r4.e⟩ (!decide (s.drop r4.at_.toNat = [])) 4) (txE (s.drop r4.at_.toNat) == 0) (txE (s.drop r4.at_.toNat)) w (hM.sel [0] O).own)) ?_)
    intro _ _
    try simp only [setN, putD, selM, nth, cw, cx]
    refine ai (ci (fun _ _ h => h) (ar O .nil O) (fun w' hM' hK' => ?_))
    exact ⟨{ c4 with txt := s.drop r4.at_.toNat }, trivial, rfl, hK', by rw [hD]; exact hM'.sel [0, 1] rfl⟩
 refine ah fun K11 hK11 => aj (aa O O O (SL.Pure.eqS O O O) ?_)
 refine aa O O O (ak O O) (ai ?_)
 refine ae (hK11 _ _ ?_)
 refine aH O (fun hc19 => ?_) (fun hc19 => ?_)
 ·
  have hw : wordW s (numR s (grpR s r) 0 1000000) = openT := by simpa using hc19
  refine aC ?_
  exact bI (hJr3 (wordR s (numR s (grpR s r) 0 1000000), { c with grp := wordW s r, ver := (numV (wordW s (grpR s r)) : Int) }) (by rw [modeR, if_pos hw])) [0, 1] ⟨rfl, rfl, trivial⟩ O rfl
 ·
  have hw : ¬ wordW s (numR s (grpR s r) 0 1000000) = openT := by simpa using hc19
  refine ah fun K12 hK12 => aj (aa O O O (SL.Pure.eqS O O O) ?_)
  refine aa O O O (ak O O) (ai ?_)
  refine ae (hK12 _ _ ?_)
  refine aH O (fun hc21 => ?_) (fun hc21 => ?_)
  ·
   have hw2 : wordW s (numR s (grpR s r) 0 1000000) = modT := by simpa using hc21
   refine ah fun K13 hK13 => aj (aa O O O (af O O) ?_)
   refine aa O O O (aZ O O) (aa O O O (au (k := 35) O O (by kernel_rfl) O) ?_)
   refine am O (by first | exact ap (k := 1) 0 [SL.Seg.one _ rfl] O O O O O O (by kernel_rfl) O O | exact ap (k := 1) 1 [SL.Seg.one _ rfl] O O O O O O (by kernel_rfl) O O) ?_
   intro _ _
   try simp only [setN, putD, selM, nth, cw, cx]
   refine ai (ae ?_)
   refine hK13 _ _ (aj ?_)
   refine aa O O O (af O O) (aa O O O (af O O) ?_)
   refine am O (aM [0] [1] O O (by kernel_rfl) O O O O (fun w hM hK => moderators_c b s (wordR s (numR s (grpR s r) 0 1000000)) hs ha3 hb w (hG.keepM hK hB) (hM.sel [0] O).own)) ?_
   intro ⟨ma, ml, mc⟩ _
   try simp only [setN, putD, selM, nth, cw, cx]
   refine aa O O O (aZ O O) (aa O O O (au (k := 36) O O (by kernel_rfl) O) ?_)
   refine am O (by first | exact ap (k := 1) 0 [SL.Seg.one _ rfl] O O O O O O (by kernel_rfl) O O | exact ap (k := 1) 1 [SL.Seg.one _ rfl] O O O O O O (by kernel_rfl) O O) ?_
   intro _ _
   try simp only [setN, putD, selM, nth, cw, cx]
   refine ai ?_
   exact bI (hJr3 (modR s (wordR s (numR s (grpR s r) 0 1000000)), { c with grp := wordW s r, ver := (numV (wordW s (grpR s r)) : Int), md := true, ma := ma, ml := ml, mc := mc }) (by rw [modeR, if_neg hw, if_pos hw2])) [0, 1] ⟨rfl, rfl, trivial⟩ O rfl
  ·
   have hw2 : ¬ wordW s (numR s (grpR s r) 0 1000000) = modT := by simpa using hc21
   refine aj (aa O O O (af O O) ?_)
   refine am O (aM [0] [1] O O (by kernel_rfl) O O O O (fun w hM hK => want_c b s (wordR s (numR s (grpR s r) 0 1000000)) false 3 w (hM.sel [0] O).own)) ?_
   intro _ _
   try simp only [setN, putD, selM, nth, cw, cx]
   refine ai ?_
   exact bI (hJr3 (wantM (wordR s (numR s (grpR s r) 0 1000000)) false 3, { c with grp := wordW s r, ver := (numV (wordW s (grpR s r)) : Int) }) (by rw [modeR, if_neg hw, if_neg hw2])) [0, 1] ⟨rfl, rfl, trivial⟩ O rfl
end Go.Proofs.YthfhhkanpnemcaaGreatDoor
namespace Go.Proofs.YthfhhkanpnemcaaGreatDoor
open Go.SL Go.RowKit IntWalk
set_option linter.unusedVariables false
set_option maxRecDepth 100000
set_option linter.unusedSimpArgs false
set_option maxHeartbeats 400000

theorem two6 {b bc : Nat} {x y : Obj} (hb : 6 ≤ b) (hbc : 6 ≤ bc) : ∀ r' ∈ [Res.blk b x, Res.blk bc y], ∀ k, r'.block = some k → 6 ≤ k := by
 intro r' hr' k hk
 simp only [List.mem_cons, List.not_mem_nil, or_false] at hr'
 rcases hr' with rfl | rfl <;> simp only [Res.block, Option.some.injEq] at hk <;> omega
def rekR (s : List UInt8) (r : Rd) : Rd := wantM (wordR s (numR s r 1 1000)) (pubE (wordW s (numR s r 1 1000)) == 0) (pubE (wordW s (numR s r 1 1000)))
theorem rekey_c (b bc : Nat) (s : List UInt8) (r : Rd) (c : Cmd) (hs : s.length ≤ 100000) (hr : r.at_ ≤ s.length) (hb : 6 ≤ b) (hbc : 6 ≤ bc) (w : World) (hG : Glob w) (hm : Mem (blocksOf [.blk b (rdO s r), .blk bc (cmdO c)]) w [.blk b (rdO s r), .blk bc (cmdO c)] w) :
  Calls Tryz.prog 123 [.pointer (some ⟨b, 0, none⟩), .pointer (some ⟨bc, 0, none⟩)].toArray w fun q w' => ∃ c' : Cmd, True ∧ q = .returned (.tuple #[]) ∧ Post w (blocksOf [.blk b (rdO s r), .blk bc (cmdO c)]) [.blk b (rdO s (rekR s r)), .blk bc (cmdO c')] w' := by
 have hB := two6 (x := rdO s r) (y := cmdO c) hb hbc
 have ha1 := numR_at (lo := 1) (hi := 1000) hr
 have hwl := wordW_len s (numR s r 1 1000)
 refine aJ (n := 26) (W := (blocksOf [.blk b (rdO s r), .blk bc (cmdO c)])) (m := [.blk b (rdO s r), .blk bc (cmdO c)]) Tryz.func123 O Tryz.ntmps123 O hm ?_
 simp only [SL.enum, Nat.reduceAdd]
 refine ah fun K1 hK1 => aj (aa O O O (af O O) ?_)
 refine aa O O O (af O O) (am O (aM [0] [1] O O (by kernel_rfl) O O O O (fun w hM hK => number_c b s r 1 1000 hs hr hb w (hG.keepM hK hB) (hM.sel [0] O).own)) ?_)
 intro _ _
 try simp only [setN, putD, selM, nth, cw, cx]
 refine aa O O O (aZ O O) (aa O O O (au (k := 38) O O (by kernel_rfl) O) ?_)
 refine am O (by first | exact ap (k := 1) 0 [SL.Seg.one _ rfl] O O O O O O (by kernel_rfl) O O | exact ap (k := 1) 1 [SL.Seg.one _ rfl] O O O O O O (by kernel_rfl) O O) ?_
 intro _ _
 try simp only [setN, putD, selM, nth, cw, cx]
 refine ai (ae ?_)
 refine hK1 _ _ (ah fun K2 hK2 => ?_)
 refine aj (aa O O O (af O O) ?_)
 refine am O (aM [0] [1] O O (by kernel_rfl) O O O O (fun w hM hK => word_c b s (numR s r 1 1000) hs ha1 hb w (hG.keepM hK hB) (hM.sel [0] O).own)) ?_
 intro _ _
 try simp only [setN, putD, selM, nth, cw, cx]
 refine am O (aM [] [0, 1] O O (by kernel_rfl) O O O O (fun w hM hK => parsePublic_c (wordW s (numR s r 1 1000)) (by omega) w)) ?_
 intro _ _
 try simp only [setN, putD, selM, nth, cw, cx]
 refine aa O O O (af O O) (aa O O O (aW O O O) ?_)
 refine aa O O O (aW O O O) (am O (aX [Seg.one (.int .i64 0) rfl, (B.zero 16).seg] O O O (by kernel_rfl)) ?_)
 intro b4 _
 try simp only [setN, putD, selM, nth, cw, cx]
 refine am O (by first | exact ap (k := 17) 0 _ O O O O O O (by kernel_rfl) O O | exact ap (k := 17) 1 _ O O O O O O (by kernel_rfl) O O | exact ap (k := 17) 2 _ O O O O O O (by kernel_rfl) O O) ?_
 intro _ _
 try simp only [setN, putD, selM, nth, cw, cx]
 refine aa O O O (ak O O) (ai ?_)
 refine ae (hK2 _ _ ?_)
 refine ah fun K3 hK3 => aj (aa O O O (af O O) ?_)
 refine aa O O O (af O O) (aa O O O (bt O O O) ?_)
 refine aa O O O (af O O) (am O (aM [1] [0, 2] O O (by kernel_rfl) O O O O (fun w hM hK => want_c b s (wordR s (numR s r 1 1000)) (pubE (wordW s (numR s r 1 1000)) == 0) (pubE (wordW s (numR s r 1 1000))) w (hM.sel [1] O).own)) ?_)
 intro _ _
 try simp only [setN, putD, selM, nth, cw, cx]
 refine ai (ae ?_)
 refine hK3 _ _ (aj ?_)
 refine aa O O O (af O O) (aa O O O (by first | exact ay 0 (k := 17) O O O (by kernel_rfl) O (by kernel_rfl) | exact ay 1 (k := 17) O O O (by kernel_rfl) O (by kernel_rfl) | exact ay 2 (k := 17) O O O (by kernel_rfl) O (by kernel_rfl)) ?_)
 refine aa O O O (aZ O O) (aa O O O (au (k := 39) O O (by kernel_rfl) O) ?_)
 refine am O (by first | exact ap (k := 17) 0 _ O O O O O O (by kernel_rfl) O O | exact ap (k := 17) 1 _ O O O O O O (by kernel_rfl) O O | exact ap (k := 17) 2 _ O O O O O O (by kernel_rfl) O O) ?_
 intro _ _
 try simp only [setN, putD, selM, nth, cw, cx]
 refine ai (ci (fun _ _ h => h) (ar O .nil O) (fun w' hM' hK' => ?_))
 exact ⟨{ c with num := (numV (wordW s r) : Int), ht := pubHt (wordW s (numR s r 1 1000)), rt := pubRt (wordW s (numR s r 1 1000)) }, trivial, rfl, hK', hM'.sel [0, 2] rfl⟩

abbrev RdP (b : Nat) (s : List UInt8) (r r' : Rd) (w : World) : Ending → World → Prop := fun q w' => ∃ c' : Cmd, True ∧ q = .returned (.agg (flat (cmdS c'))) ∧ Post w (blocksOf [.blk b (rdO s r)]) [.blk b (rdO s r')] w'

theorem parser1_c (b : Nat) (s : List UInt8) (r : Rd) (hs : s.length ≤ 100000) (hr : r.at_ ≤ s.length) (hb : 6 ≤ b) (w : World) (hG : Glob w) (hm : Mem (blocksOf [.blk b (rdO s r)]) w [.blk b (rdO s r)] w) :
  Calls Tryz.prog 114 [.pointer (some ⟨b, 0, none⟩)].toArray w (RdP b s r (targR s r) w) := by
 refine aJ (n := 6) (W := (blocksOf [.blk b (rdO s r)])) (m := [.blk b (rdO s r)]) Tryz.func114 O Tryz.ntmps114 O hm ?_
 simp only [SL.enum, Nat.reduceAdd]
 refine ah fun K1 hK1 => aj (am O (aX [Seg.one (.int .i64 0) rfl, (B.zero 32).seg, Seg.one (str []) rfl, Seg.one (.int .i64 0) rfl, Seg.one (.bool false) rfl, Seg.one (.slice none 0 0) rfl, Seg.one (str []) rfl, Seg.one (.int .i64 0) rfl, Seg.one (.int .i64 0) rfl, (B.zero 16).seg] O O O (by kernel_rfl)) ?_)
 intro b2 _
 try simp only [setN, putD, selM, nth, cw, cx]
 refine ai (ae ?_)
 refine hK1 _ _ (ah fun K2 hK2 => ?_)
 refine aj (aa O O O (af O O) ?_)
 refine am O (aM [1] [0] O O (by kernel_rfl) O O O O (fun w hM hK => target_c b s r hs hr hb w (hG.keep1 hK hb) (hM.sel [1] O).own)) ?_
 intro _ _
 try simp only [setN, putD, selM, nth, cw, cx]
 refine aa O O O (bg [(0, 1), (1, 32), (33, 1), (34, 1), (35, 1), (36, 1), (37, 1), (38, 1), (39, 17)] [Seg.one (.int .i64 0) rfl, (B.zero 32).seg, Seg.one (str []) rfl, Seg.one (.int .i64 0) rfl, Seg.one (.bool false) rfl, Seg.one (.slice none 0 0) rfl, Seg.one (str []) rfl, Seg.one (.int .i64 0) rfl, Seg.one (.int .i64 0) rfl, (B.zero 16).seg] O O (.cons (.one O) (.cons .agg .nil)) (by kernel_rfl) (by kernel_rfl) O) ?_
 refine am O (by first | exact ap (k := 56) 0 _ O O O O O O (by kernel_rfl) O O | exact ap (k := 56) 1 _ O O O O O O (by kernel_rfl) O O) ?_
 intro _ _
 try simp only [setN, putD, selM, nth, cw, cx]
 refine ai (ae ?_)
 refine hK2 _ _ (aw av (ar O (.cons (by first | exact SL.RV.cellA 0 (k := 56) O O (by kernel_rfl) O (by kernel_rfl) | exact SL.RV.cellA 1 (k := 56) O O (by kernel_rfl) O (by kernel_rfl)) .nil) O) (fun w' hM' hK' => ?_))
 exact ⟨{ cmd0 1 with tgt := midV (wordW s r) }, trivial, rfl, hK', hM'.sel [0] rfl⟩
theorem parser2_c (b : Nat) (s : List UInt8) (r : Rd) (hs : s.length ≤ 100000) (hr : r.at_ ≤ s.length) (hb : 6 ≤ b) (w : World) (hG : Glob w) (hm : Mem (blocksOf [.blk b (rdO s r)]) w [.blk b (rdO s r)] w) :
  Calls Tryz.prog 116 [.pointer (some ⟨b, 0, none⟩)].toArray w (RdP b s r (grpR s (targR s r)) w) := by
 refine aJ (n := 8) (W := (blocksOf [.blk b (rdO s r)])) (m := [.blk b (rdO s r)]) Tryz.func116 O Tryz.ntmps116 O hm ?_
 simp only [SL.enum, Nat.reduceAdd]
 refine ah fun K1 hK1 => aj (am O (aX [Seg.one (.int .i64 0) rfl, (B.zero 32).seg, Seg.one (str []) rfl, Seg.one (.int .i64 0) rfl, Seg.one (.bool false) rfl, Seg.one (.slice none 0 0) rfl, Seg.one (str []) rfl, Seg.one (.int .i64 0) rfl, Seg.one (.int .i64 0) rfl, (B.zero 16).seg] O O O (by kernel_rfl)) ?_)
 intro b2 _
 try simp only [setN, putD, selM, nth, cw, cx]
 refine ai (ae ?_)
 refine hK1 _ _ (ah fun K2 hK2 => ?_)
 refine aj (aa O O O (af O O) ?_)
 refine am O (aM [1] [0] O O (by kernel_rfl) O O O O (fun w hM hK => target_c b s r hs hr hb w (hG.keep1 hK hb) (hM.sel [1] O).own)) ?_
 intro _ _
 try simp only [setN, putD, selM, nth, cw, cx]
 refine aa O O O (af O O) (am O (aM [0] [1] O O (by kernel_rfl) O O O O (fun w hM hK => group_c b s (targR s r) hs (targR_at hr) hb w (hG.keep1 hK hb) (hM.sel [0] O).own)) ?_)
 intro _ _
 try simp only [setN, putD, selM, nth, cw, cx]
 refine aa O O O (bg [(0, 1), (1, 32), (33, 1), (34, 1), (35, 1), (36, 1), (37, 1), (38, 1), (39, 17)] [Seg.one (.int .i64 0) rfl, (B.zero 32).seg, Seg.one (str []) rfl, Seg.one (.int .i64 0) rfl, Seg.one (.bool false) rfl, Seg.one (.slice none 0 0) rfl, Seg.one (str []) rfl, Seg.one (.int .i64 0) rfl, Seg.one (.int .i64 0) rfl, (B.zero 16).seg] O O (.cons (.one O) (.cons .agg (.cons (.one O) .nil))) (by kernel_rfl) (by kernel_rfl) O) ?_
 refine am O (by first | exact ap (k := 56) 0 _ O O O O O O (by kernel_rfl) O O | exact ap (k := 56) 1 _ O O O O O O (by kernel_rfl) O O) ?_
 intro _ _
 try simp only [setN, putD, selM, nth, cw, cx]
 refine ai (ae ?_)
 refine hK2 _ _ (aw av (ar O (.cons (by first | exact SL.RV.cellA 0 (k := 56) O O (by kernel_rfl) O (by kernel_rfl) | exact SL.RV.cellA 1 (k := 56) O O (by kernel_rfl) O (by kernel_rfl)) .nil) O) (fun w' hM' hK' => ?_))
 exact ⟨{ cmd0 2 with tgt := midV (wordW s r), grp := wordW s (targR s r) }, trivial, rfl, hK', hM'.sel [0] rfl⟩
theorem parser4_c (b : Nat) (s : List UInt8) (r : Rd) (hs : s.length ≤ 100000) (hr : r.at_ ≤ s.length) (hb : 6 ≤ b) (w : World) (hG : Glob w) (hm : Mem (blocksOf [.blk b (rdO s r)]) w [.blk b (rdO s r)] w) :
  Calls Tryz.prog 120 [.pointer (some ⟨b, 0, none⟩)].toArray w (RdP b s r (numR s (grpR s r) 0 1000000) w) := by
 refine aJ (n := 8) (W := (blocksOf [.blk b (rdO s r)])) (m := [.blk b (rdO s r)]) Tryz.func120 O Tryz.ntmps120 O hm ?_
 simp only [SL.enum, Nat.reduceAdd]
 refine ah fun K1 hK1 => aj (am O (aX [Seg.one (.int .i64 0) rfl, (B.zero 32).seg, Seg.one (str []) rfl, Seg.one (.int .i64 0) rfl, Seg.one (.bool false) rfl, Seg.one (.slice none 0 0) rfl, Seg.one (str []) rfl, Seg.one (.int .i64 0) rfl, Seg.one (.int .i64 0) rfl, (B.zero 16).seg] O O O (by kernel_rfl)) ?_)
 intro b2 _
 try simp only [setN, putD, selM, nth, cw, cx]
 refine ai (ae ?_)
 refine hK1 _ _ (ah fun K2 hK2 => ?_)
 refine aj (aa O O O (af O O) ?_)
 refine am O (aM [1] [0] O O (by kernel_rfl) O O O O (fun w hM hK => group_c b s r hs hr hb w (hG.keep1 hK hb) (hM.sel [1] O).own)) ?_
 intro _ _
 try simp only [setN, putD, selM, nth, cw, cx]
 refine aa O O O (af O O) (am O (aM [0] [1] O O (by kernel_rfl) O O O O (fun w hM hK => number_c b s (grpR s r) 0 1000000 hs (grpR_at hr) hb w (hG.keep1 hK hb) (hM.sel [0] O).own)) ?_)
 intro _ _
 try simp only [setN, putD, selM, nth, cw, cx]
 refine aa O O O (bg [(0, 1), (1, 32), (33, 1), (34, 1), (35, 1), (36, 1), (37, 1), (38, 1), (39, 17)] [Seg.one (.int .i64 0) rfl, (B.zero 32).seg, Seg.one (str []) rfl, Seg.one (.int .i64 0) rfl, Seg.one (.bool false) rfl, Seg.one (.slice none 0 0) rfl, Seg.one (str []) rfl, Seg.one (.int .i64 0) rfl, Seg.one (.int .i64 0) rfl, (B.zero 16).seg] O O (.cons (.one O) (.cons (.one O) (.cons (.one O) .nil))) (by kernel_rfl) (by kernel_rfl) O) ?_
 refine am O (by first | exact ap (k := 56) 0 _ O O O O O O (by kernel_rfl) O O | exact ap (k := 56) 1 _ O O O O O O (by kernel_rfl) O O) ?_
 intro _ _
 try simp only [setN, putD, selM, nth, cw, cx]
 refine ai (ae ?_)
 refine hK2 _ _ (aw av (ar O (.cons (by first | exact SL.RV.cellA 0 (k := 56) O O (by kernel_rfl) O (by kernel_rfl) | exact SL.RV.cellA 1 (k := 56) O O (by kernel_rfl) O (by kernel_rfl)) .nil) O) (fun w' hM' hK' => ?_))
 exact ⟨{ cmd0 4 with grp := wordW s r, ver := (numV (wordW s (grpR s r)) : Int) }, trivial, rfl, hK', hM'.sel [0] rfl⟩
theorem newBlk6 {m : List Res} {w0 w : World} {W : Nat → Prop} (hG : Glob w0) (hM : Mem W w0 m w) (hW : ∀ k, W k → 6 ≤ k) {r : Res} (hr : r ∈ m) {k : Nat} (hk : r.block = some k) : 6 ≤ k := by
 rcases hM.may r hr k hk with h | h
 ·
  exact Nat.le_trans hG.size h
 ·
  exact hW k h
theorem one6 {b : Nat} {x : Obj} (hb : 6 ≤ b) : ∀ k, blocksOf [Res.blk b x] k → 6 ≤ k := by
 rintro k ⟨r, hr, hk⟩
 simp only [List.mem_singleton] at hr
 subst hr
 simp only [Res.block, Option.some.injEq] at hk
 omega
theorem parser3_c (b : Nat) (s : List UInt8) (r : Rd) (hs : s.length ≤ 100000) (hr : r.at_ ≤ s.length) (hb : 6 ≤ b) (w : World) (hG : Glob w) (hm : Mem (blocksOf [.blk b (rdO s r)]) w [.blk b (rdO s r)] w) :
  Calls Tryz.prog 118 [.pointer (some ⟨b, 0, none⟩)].toArray w (RdP b s r (defR s r) w) := by
 refine aJ (n := 8) (W := (blocksOf [.blk b (rdO s r)])) (m := [.blk b (rdO s r)]) Tryz.func118 O Tryz.ntmps118 O hm ?_
 simp only [SL.enum, Nat.reduceAdd]
 refine ah fun K1 hK1 => aj (am O (aX [Seg.one (.int .i64 0) rfl, (B.zero 32).seg, Seg.one (str []) rfl, Seg.one (.int .i64 0) rfl, Seg.one (.bool false) rfl, Seg.one (.slice none 0 0) rfl, Seg.one (str []) rfl, Seg.one (.int .i64 0) rfl, Seg.one (.int .i64 0) rfl, (B.zero 16).seg] O O O (by kernel_rfl)) ?_)
 intro b2 _
 try simp only [setN, putD, selM, nth, cw, cx]
 refine ai (ae ?_)
 refine hK1 _ _ (ah fun K2 hK2 => ?_)
 refine aj (aa O O O (bg [(0, 1), (1, 32), (33, 1), (34, 1), (35, 1), (36, 1), (37, 1), (38, 1), (39, 17)] [Seg.one (.int .i64 0) rfl, (B.zero 32).seg, Seg.one (str []) rfl, Seg.one (.int .i64 0) rfl, Seg.one (.bool false) rfl, Seg.one (.slice none 0 0) rfl, Seg.one (str []) rfl, Seg.one (.int .i64 0) rfl, Seg.one (.int .i64 0) rfl, (B.zero 16).seg] O O (.cons (.one O) .nil) (by kernel_rfl) (by kernel_rfl) O) ?_)
 refine am O (aX [Seg.one (.int .i64 0) rfl, (B.zero 32).seg, Seg.one (str []) rfl, Seg.one (.int .i64 0) rfl, Seg.one (.bool false) rfl, Seg.one (.slice none 0 0) rfl, Seg.one (str []) rfl, Seg.one (.int .i64 0) rfl, Seg.one (.int .i64 0) rfl, (B.zero 16).seg] O O O (by kernel_rfl)) ?_
 intro b3 _
 try simp only [setN, putD, selM, nth, cw, cx]
 refine am O (by first | exact ap (k := 56) 0 _ O O O O O O (by kernel_rfl) O O | exact ap (k := 56) 1 _ O O O O O O (by kernel_rfl) O O | exact ap (k := 56) 2 _ O O O O O O (by kernel_rfl) O O) ?_
 intro _ _
 try simp only [setN, putD, selM, nth, cw, cx]
 refine ai (ae ?_)
 refine hK2 _ _ (ah fun K3 hK3 => ?_)
 refine aj (aa O O O (af O O) ?_)
 refine am O (aM [2, 0] [1] O O (by kernel_rfl) O O O O (fun w hM hK => define_c b b3 s r (cmd0 3) hs hr hb (newBlk6 hG hM (one6 hb) (r := .blk b3 (cmdO (cmd0 3))) (by exact List.mem_cons_self) O) w (hG.keep1 hK hb) (hM.sel [2, 0] O).own)) ?_
 intro c3 _
 try simp only [setN, putD, selM, nth, cw, cx]
 refine ai (ae ?_)
 refine hK3 _ _ (ah fun K4 hK4 => ?_)
 refine aj (aa O O O (by first | exact ay 0 (k := 56) O O O (by kernel_rfl) O (by kernel_rfl) | exact ay 1 (k := 56) O O O (by kernel_rfl) O (by kernel_rfl) | exact ay 2 (k := 56) O O O (by kernel_rfl) O (by kernel_rfl)) ?_)
 refine am O (by first | exact ap (k := 56) 0 _ O O O O O O (by kernel_rfl) O O | exact ap (k := 56) 1 _ O O O O O O (by kernel_rfl) O O | exact ap (k := 56) 2 _ O O O O O O (by kernel_rfl) O O) ?_
 intro _ _
 try simp only [setN, putD, selM, nth, cw, cx]
 refine ai (ae ?_)
 refine hK4 _ _ (aw av (ar O (.cons (by first | exact SL.RV.cellA 0 (k := 56) O O (by kernel_rfl) O (by kernel_rfl) | exact SL.RV.cellA 1 (k := 56) O O (by kernel_rfl) O (by kernel_rfl) | exact SL.RV.cellA 2 (k := 56) O O (by kernel_rfl) O (by kernel_rfl)) .nil) O) (fun w' hM' hK' => ?_))
 exact ⟨c3, trivial, rfl, hK', hM'.sel [0] rfl⟩
theorem parser5_c (b : Nat) (s : List UInt8) (r : Rd) (hs : s.length ≤ 100000) (hr : r.at_ ≤ s.length) (hb : 6 ≤ b) (w : World) (hG : Glob w) (hm : Mem (blocksOf [.blk b (rdO s r)]) w [.blk b (rdO s r)] w) :
  Calls Tryz.prog 122 [.pointer (some ⟨b, 0, none⟩)].toArray w (RdP b s r (rekR s r) w) := by
 refine aJ (n := 8) (W := (blocksOf [.blk b (rdO s r)])) (m := [.blk b (rdO s r)]) Tryz.func122 O Tryz.ntmps122 O hm ?_
 simp only [SL.enum, Nat.reduceAdd]
 refine ah fun K1 hK1 => aj (am O (aX [Seg.one (.int .i64 0) rfl, (B.zero 32).seg, Seg.one (str []) rfl, Seg.one (.int .i64 0) rfl, Seg.one (.bool false) rfl, Seg.one (.slice none 0 0) rfl, Seg.one (str []) rfl, Seg.one (.int .i64 0) rfl, Seg.one (.int .i64 0) rfl, (B.zero 16).seg] O O O (by kernel_rfl)) ?_)
 intro b2 _
 try simp only [setN, putD, selM, nth, cw, cx]
 refine ai (ae ?_)
 refine hK1 _ _ (ah fun K2 hK2 => ?_)
 refine aj (aa O O O (bg [(0, 1), (1, 32), (33, 1), (34, 1), (35, 1), (36, 1), (37, 1), (38, 1), (39, 17)] [Seg.one (.int .i64 0) rfl, (B.zero 32).seg, Seg.one (str []) rfl, Seg.one (.int .i64 0) rfl, Seg.one (.bool false) rfl, Seg.one (.slice none 0 0) rfl, Seg.one (str []) rfl, Seg.one (.int .i64 0) rfl, Seg.one (.int .i64 0) rfl, (B.zero 16).seg] O O (.cons (.one O) .nil) (by kernel_rfl) (by kernel_rfl) O) ?_)
 refine am O (aX [Seg.one (.int .i64 0) rfl, (B.zero 32).seg, Seg.one (str []) rfl, Seg.one (.int .i64 0) rfl, Seg.one (.bool false) rfl, Seg.one (.slice none 0 0) rfl, Seg.one (str []) rfl, Seg.one (.int .i64 0) rfl, Seg.one (.int .i64 0) rfl, (B.zero 16).seg] O O O (by kernel_rfl)) ?_
 intro b3 _
 try simp only [setN, putD, selM, nth, cw, cx]
 refine am O (by first | exact ap (k := 56) 0 _ O O O O O O (by kernel_rfl) O O | exact ap (k := 56) 1 _ O O O O O O (by kernel_rfl) O O | exact ap (k := 56) 2 _ O O O O O O (by kernel_rfl) O O) ?_
 intro _ _
 try simp only [setN, putD, selM, nth, cw, cx]
 refine ai (ae ?_)
 refine hK2 _ _ (ah fun K3 hK3 => ?_)
 refine aj (aa O O O (af O O) ?_)
 refine am O (aM [2, 0] [1] O O (by kernel_rfl) O O O O (fun w hM hK => rekey_c b b3 s r (cmd0 5) hs hr hb (newBlk6 hG hM (one6 hb) (r := .blk b3 (cmdO (cmd0 5))) (by exact List.mem_cons_self) O) w (hG.keep1 hK hb) (hM.sel [2, 0] O).own)) ?_
 intro c3 _
 try simp only [setN, putD, selM, nth, cw, cx]
 refine ai (ae ?_)
 refine hK3 _ _ (ah fun K4 hK4 => ?_)
 refine aj (aa O O O (by first | exact ay 0 (k := 56) O O O (by kernel_rfl) O (by kernel_rfl) | exact ay 1 (k := 56) O O O (by kernel_rfl) O (by kernel_rfl) | exact ay 2 (k := 56) O O O (by kernel_rfl) O (by kernel_rfl)) ?_)
 refine am O (by first | exact ap (k := 56) 0 _ O O O O O O (by kernel_rfl) O O | exact ap (k := 56) 1 _ O O O O O O (by kernel_rfl) O O | exact ap (k := 56) 2 _ O O O O O O (by kernel_rfl) O O) ?_
 intro _ _
 try simp only [setN, putD, selM, nth, cw, cx]
 refine ai (ae ?_)
 refine hK4 _ _ (aw av (ar O (.cons (by first | exact SL.RV.cellA 0 (k := 56) O O (by kernel_rfl) O (by kernel_rfl) | exact SL.RV.cellA 1 (k := 56) O O (by kernel_rfl) O (by kernel_rfl) | exact SL.RV.cellA 2 (k := 56) O O (by kernel_rfl) O (by kernel_rfl)) .nil) O) (fun w' hM' hK' => ?_))
 exact ⟨c3, trivial, rfl, hK', hM'.sel [0] rfl⟩

abbrev fnF : Nat → Value := fun f => Value.func (.func f) #[] #[]
def pkv : List (List UInt8 × Nat) := [([99, 97, 110, 99, 101, 108], 114), ([97, 112, 112, 114, 111, 118, 101], 116), ([100, 101, 102, 105, 110, 101], 118), ([114, 101, 109, 111, 118, 101], 120), ([114, 101, 107, 101, 121], 122)]
abbrev pkO (k : Nat) : Obj := mapO str fnF (pkv.take k)
theorem parsers_c (w : World) : Calls Tryz.prog 88 (#[] : Array Value) w fun e w' => ∃ b : Nat, True ∧ e = .returned (.map (some b)) ∧ Post w (blocksOf []) [.blk b (pkO 5)] w' := by
 refine aJ (n := 3) (W := (blocksOf [])) (m := []) Tryz.func88 O Tryz.ntmps88 O (aO _ _ _) ?_
 simp only [SL.enum, Nat.reduceAdd]
 refine ah fun K1 hK1 => aj (aa O O O (ak O O) ?_)
 refine ai (ae ?_)
 refine hK1 _ _ (ah fun K2 hK2 => ?_)
 refine aj (am O (SL.Eff.makeMap O O O) ?_)
 intro b1 _
 try simp only [setN, putD, selM, nth, cw, cx]
 refine am O (by exact SL.Eff.mapPut (kv := pkv.take 0) (vf := fnF) 0 [99, 97, 110, 99, 101, 108] 114 (SL.KeyLike.string Tryz.underlying9) (.inr O) O O O O Tryz.underlying144 O (by decide)) ?_
 intro _ _
 try simp only [setN, putD, selM, nth, cw, cx]
 refine am O (by exact SL.Eff.mapPut (kv := pkv.take 1) (vf := fnF) 0 [97, 112, 112, 114, 111, 118, 101] 116 (SL.KeyLike.string Tryz.underlying9) (.inr O) O O O O Tryz.underlying144 O (by decide)) ?_
 intro _ _
 try simp only [setN, putD, selM, nth, cw, cx]
 refine am O (by exact SL.Eff.mapPut (kv := pkv.take 2) (vf := fnF) 0 [100, 101, 102, 105, 110, 101] 118 (SL.KeyLike.string Tryz.underlying9) (.inr O) O O O O Tryz.underlying144 O (by decide)) ?_
 intro _ _
 try simp only [setN, putD, selM, nth, cw, cx]
 refine am O (by exact SL.Eff.mapPut (kv := pkv.take 3) (vf := fnF) 0 [114, 101, 109, 111, 118, 101] 120 (SL.KeyLike.string Tryz.underlying9) (.inr O) O O O O Tryz.underlying144 O (by decide)) ?_
 intro _ _
 try simp only [setN, putD, selM, nth, cw, cx]
 refine am O (by exact SL.Eff.mapPut (kv := pkv.take 4) (vf := fnF) 0 [114, 101, 107, 101, 121] 122 (SL.KeyLike.string Tryz.underlying9) (.inr O) O O O O Tryz.underlying144 O (by decide)) ?_
 intro _ _
 try simp only [setN, putD, selM, nth, cw, cx]
 refine aa O O O (af O O) (aa O O O (ak O O) ?_)
 refine ai (ae ?_)
 refine hK2 _ _ (aw av (ar O (.cons (.tmp O) .nil) O) (fun w' hM' hK' => ?_))
 exact ⟨b1, trivial, rfl, hK', hM'.sel [0] rfl⟩
end Go.Proofs.YthfhhkanpnemcaaGreatDoor
namespace Go.Proofs.YthfhhkanpnemcaaGreatDoor
open Go.SL Go.RowKit IntWalk
set_option linter.unusedVariables false
set_option maxRecDepth 100000
set_option linter.unusedSimpArgs false
set_option maxHeartbeats 400000

def pkR (s : List UInt8) (r : Rd) (f : Nat) : Rd := if f = 114 then targR s r else if f = 116 then grpR s (targR s r) else if f = 118 then defR s r else if f = 120 then numR s (grpR s r) 0 1000000 else rekR s r
theorem pk_cases {f : Nat} (h : ∃ w, (w, f) ∈ pkv) : f = 114 ∨ f = 116 ∨ f = 118 ∨ f = 120 ∨ f = 122 := by
 obtain ⟨w, h⟩ := h
 simp only [pkv, List.mem_cons, Prod.mk.injEq, List.not_mem_nil, or_false] at h
 rcases h with ⟨_, h⟩ | ⟨_, h⟩ | ⟨_, h⟩ | ⟨_, h⟩ | ⟨_, h⟩ <;> simp [h]
theorem pk_enters {f : Nat} (h : ∃ w, (w, f) ∈ pkv) : entersB Tryz.prog f = true := by
 rcases pk_cases h with rfl | rfl | rfl | rfl | rfl <;> kernel_rfl
theorem txtR_at {s : List UInt8} {r : Rd} : (txtR s r).at_ = -1 := by rw [txtR, wantM_at, wantM_at]
theorem defR_at {s : List UInt8} {r : Rd} (h : r.at_ ≤ s.length) : (defR s r).at_ ≤ s.length := by
 unfold defR
 split
 ·
  exact modeR_at (numR_at (grpR_at h))
 ·
  rw [txtR_at]; omega
theorem rekR_at {s : List UInt8} {r : Rd} (h : r.at_ ≤ s.length) : (rekR s r).at_ ≤ s.length := by rw [rekR, wantM_at]; exact wordR_at (numR_at h)
theorem pkR_at {s : List UInt8} {r : Rd} {f : Nat} (h : r.at_ ≤ s.length) : (pkR s r f).at_ ≤ s.length := by
 unfold pkR
 split
 ·
  exact targR_at h
 ·
  split
  ·
   exact grpR_at (targR_at h)
  ·
   split
   ·
    exact defR_at h
   ·
    split
    ·
     exact numR_at (grpR_at h)
    ·
     exact rekR_at h
theorem parser_c (f : Nat) (hf : ∃ w, (w, f) ∈ pkv) (b : Nat) (s : List UInt8) (r : Rd) (hs : s.length ≤ 100000) (hr : r.at_ ≤ s.length) (hb : 6 ≤ b) (w : World) (hG : Glob w) (hm : Mem (blocksOf [.blk b (rdO s r)]) w [.blk b (rdO s r)] w) :
  Calls Tryz.prog f [.pointer (some ⟨b, 0, none⟩)].toArray w (RdP b s r (pkR s r f) w) := by
 rcases pk_cases hf with rfl | rfl | rfl | rfl | rfl
 ·
  exact parser1_c b s r hs hr hb w hG hm
 ·
  exact parser2_c b s r hs hr hb w hG hm
 ·
  exact parser3_c b s r hs hr hb w hG hm
 ·
  exact parser4_c b s r hs hr hb w hG hm
 ·
  exact parser5_c b s r hs hr hb w hG hm

abbrev rd0 : Rd := ⟨0, 0, 0, 0⟩
def finR (r : Rd) : Rd := if r.e = 0 ∧ 0 ≤ r.at_ then failM r (r.at_ - 1) 5 else r
def ctlE (s : List UInt8) : Int := if 1000 < s.length then 5 else match findM pkv (wordW s rd0) 0 with
 | none => 11
 | some p => (finR (pkR s (wordR s rd0) p.2)).e

theorem ctlParse_c (s : List UInt8) (w : World) (hG : Glob w) :
  Calls Tryz.prog 67 [str s].toArray w fun q w' => ∃ x : Cmd × Int, True ∧ q = .returned (.tuple #[.agg (flat (cmdS x.1)), .int .i64 x.2, .int .i64 (ctlE s)]) ∧ Post w (blocksOf []) [] w' := by
 refine aJ (n := 62) (W := (blocksOf [])) (m := []) Tryz.func67 O Tryz.ntmps67 O (aO _ _ _) ?_
 simp only [SL.enum, Nat.reduceAdd]
 refine ah fun K1 hK1 => aj (am O (aX [Seg.one (.int .i64 0) rfl, (B.zero 32).seg, Seg.one (str []) rfl, Seg.one (.int .i64 0) rfl, Seg.one (.bool false) rfl, Seg.one (.slice none 0 0) rfl, Seg.one (str []) rfl, Seg.one (.int .i64 0) rfl, Seg.one (.int .i64 0) rfl, (B.zero 16).seg] O O O (by kernel_rfl)) ?_)
 intro b2 _
 try simp only [setN, putD, selM, nth, cw, cx]
 refine aa O O O (ak O O) (aa O O O (ak O O) ?_)
 refine ai (ae ?_)
 refine hK1 _ _ (ah fun K2 hK2 => ?_)
 refine ah fun K3 hK3 => aj (aa O O O (af O O) ?_)
 refine aa O O O (bf O O O Tryz.underlying9) (aa O O O (bH O O O) ?_)
 refine ai (ae ?_)
 refine hK3 _ _ (aH O (fun hc10 => ?_) (fun hc10 => ?_))
 ·
  have hl : 1000 < s.length := by simp at hc10; omega
  have hE : ctlE s = 5 := if_pos hl
  refine ah fun K4 hK4 => aj (aa O O O (bg [(0, 1), (1, 32), (33, 1), (34, 1), (35, 1), (36, 1), (37, 1), (38, 1), (39, 17)] [Seg.one (.int .i64 0) rfl, (B.zero 32).seg, Seg.one (str []) rfl, Seg.one (.int .i64 0) rfl, Seg.one (.bool false) rfl, Seg.one (.slice none 0 0) rfl, Seg.one (str []) rfl, Seg.one (.int .i64 0) rfl, Seg.one (.int .i64 0) rfl, (B.zero 16).seg] O O .nil (by kernel_rfl) (by kernel_rfl) O) ?_)
  refine am O (by first | exact ap (k := 56) 0 _ O O O O O O (by kernel_rfl) O O) ?_
  intro _ _
  try simp only [setN, putD, selM, nth, cw, cx]
  refine aa O O O (ak O O) (aa O O O (ak O O) ?_)
  refine ai (ae ?_)
  refine hK4 _ _ (aw (aB av) (ar O (.cons (by first | exact SL.RV.cellA 0 (k := 56) O O (by kernel_rfl) O (by kernel_rfl)) (.cons (.tmp O) (.cons (.tmp O) .nil))) O) (fun w' hM' hK' => ?_))
  exact ⟨(cmd0 0, 0), trivial, by rw [hE]; rfl, hK', hM'.sel [] rfl⟩
 ·
  have hl : ¬ 1000 < s.length := by simp at hc10; omega
  have hE0 : ctlE s = match findM pkv (wordW s rd0) 0 with
   | none => 11
   | some p => (finR (pkR s (wordR s rd0) p.2)).e := if_neg hl
  have ha1 : (wordR s rd0).at_ ≤ s.length := wordR_at (by show (0 : Int) ≤ _; omega)
  refine aC (ae ?_)
  refine hK2 _ _ (ah fun K5 hK5 => ?_)
  refine aj (aa O O O (af O O) ?_)
  refine aa O O O (bg [(0, 1), (1, 1), (2, 1), (3, 1), (4, 1)] [Seg.one (str []) rfl, Seg.one (.int .i64 0) rfl, Seg.one (.int .i64 0) rfl, Seg.one (.int .i64 0) rfl, Seg.one (.int .i64 0) rfl] O O (.cons (.one O) .nil) (by kernel_rfl) (by kernel_rfl) O) ?_
  refine am O (bh _ O O O O O) ?_
  intro b14 _
  try simp only [setN, putD, selM, nth, cw, cx]
  refine aa O O O (ak O O) (ai ?_)
  refine ae (hK5 _ _ ?_)
  refine ah fun K6 hK6 => aj (am O (aM [] [0, 1] O O (by kernel_rfl) O O O O (fun w hM hK => parsers_c w)) ?_)
  intro bp _
  try simp only [setN, putD, selM, nth, cw, cx]
  refine aa O O O (af O O) (am O (aM [1] [0, 2] O O (by kernel_rfl) O O O O (fun w hM hK => word_c b14 s rd0 (by omega) (by show (0 : Int) ≤ _; omega) (newBlk6 hG hM (fun k ⟨r, hr, _⟩ => by cases hr) (r := .blk b14 (rdO s rd0)) (by exact List.mem_cons_of_mem _ List.mem_cons_self) O) w (hG.keep (k0 hK)) (hM.sel [1] O).own)) ?_)
  intro _ _
  try simp only [setN, putD, selM, nth, cw, cx]
  refine aa O O O (SL.Pure.lookup2 (vf := fnF) (kv := pkv) (r := look2 fnF .nilFunc (findM pkv (wordW s rd0) 0)) (ok := (findM pkv (wordW s rd0) 0).isSome) 1 (wordW s rd0) (SL.KeyLike.string Tryz.underlying9) O O O Tryz.underlying144 (by kernel_rfl) O O O) ?_
  refine aa O O O (af O O) (aa O O O (aW O O O) ?_)
  refine aa O O O (aW O O O) (aa O O O (ak O O) ?_)
  refine aa O O O (ak O O) (ai ?_)
  refine ae (hK6 _ _ ?_)
  refine ah fun K7 hK7 => ah fun K8 hK8 => aj (aa O O O (af O O) ?_)
  refine aa O O O (bM O O) (ai ?_)
  refine ae (hK8 _ _ ?_)
  refine aH O (fun hc23 => ?_) (fun hc23 => ?_)
  ·
   have hn : findM pkv (wordW s rd0) 0 = none := by
    cases h : findM pkv (wordW s rd0) 0 with
    | none => rfl
    | some p => rw [h] at hc23; cases hc23
   have hE : ctlE s = 11 := by rw [hE0, hn]
   refine ah fun K9 hK9 => aj (aa O O O (bg [(0, 1), (1, 32), (33, 1), (34, 1), (35, 1), (36, 1), (37, 1), (38, 1), (39, 17)] [Seg.one (.int .i64 0) rfl, (B.zero 32).seg, Seg.one (str []) rfl, Seg.one (.int .i64 0) rfl, Seg.one (.bool false) rfl, Seg.one (.slice none 0 0) rfl, Seg.one (str []) rfl, Seg.one (.int .i64 0) rfl, Seg.one (.int .i64 0) rfl, (B.zero 16).seg] O O .nil (by kernel_rfl) (by kernel_rfl) O) ?_)
   refine am O (by first | exact ap (k := 56) 0 _ O O O O O O (by kernel_rfl) O O | exact ap (k := 56) 1 _ O O O O O O (by kernel_rfl) O O | exact ap (k := 56) 2 _ O O O O O O (by kernel_rfl) O O) ?_
   intro _ _
   try simp only [setN, putD, selM, nth, cw, cx]
   refine aa O O O (ak O O) (aa O O O (ak O O) ?_)
   refine ai (ae ?_)
   refine hK9 _ _ (aw (aB av) (ar O (.cons (by first | exact SL.RV.cellA 0 (k := 56) O O (by kernel_rfl) O (by kernel_rfl) | exact SL.RV.cellA 1 (k := 56) O O (by kernel_rfl) O (by kernel_rfl) | exact SL.RV.cellA 2 (k := 56) O O (by kernel_rfl) O (by kernel_rfl)) (.cons (.tmp O) (.cons (.tmp O) .nil))) O) (fun w' hM' hK' => ?_))
   exact ⟨(cmd0 0, 0), trivial, by rw [hE]; rfl, hK', hM'.sel [] rfl⟩
  ·
   obtain ⟨pi, f, hf⟩ : ∃ i f, findM pkv (wordW s rd0) 0 = some (i, f) := by
    cases h : findM pkv (wordW s rd0) 0 with
    | none => rw [h] at hc23; cases hc23
    | some p => exact ⟨p.1, p.2, rfl⟩
   have hfm : ∃ w, (w, f) ∈ pkv := ⟨_, findM_mem _ _ _ _ hf⟩
   have hE1 : ctlE s = (finR (pkR s (wordR s rd0) f)).e := by rw [hE0, hf]
   have hat := pkR_at (f := f) ha1
   simp only [hf, look2]
   generalize hpk : pkR s (wordR s rd0) f = rp at *
   refine aC (ae ?_)
   refine hK7 _ _ (ah fun K10 hK10 => ?_)
   refine aj (aa O O O (af O O) ?_)
   refine aa O O O (af O O) (am O (by exact SL.Eff.callFn (f := f) (first := []) (cap := []) [0] [1, 2] O O (pk_enters hfm) O O O O (fun w hM hK => by have h := parser_c f hfm b14 s (wordR s rd0) (by omega) ha1 (newBlk6 hG hM (fun k ⟨r, hr, _⟩ => by cases hr) (r := .blk b14 (rdO s (wordR s rd0))) (by exact List.mem_cons_self) O) w (hG.keep (k0 hK)) (hM.sel [0] O).own; rw [hpk] at h; exact h)) ?_)
   intro c27 _
   try simp only [setN, putD, selM, nth, cw, cx]
   refine am O (by first | exact ap (k := 56) 0 _ O O O O O O (by kernel_rfl) O O | exact ap (k := 56) 1 _ O O O O O O (by kernel_rfl) O O | exact ap (k := 56) 2 _ O O O O O O (by kernel_rfl) O O) ?_
   intro _ _
   try simp only [setN, putD, selM, nth, cw, cx]
   refine ai (ae ?_)
   refine hK10 _ _ (ah fun K11 hK11 => ?_)
   refine cq (X := Unit) (φ := fun _ => True) (L := fun _ => [(2, .pointer (some ⟨b2, 0, none⟩)), (5, .pointer (some ⟨b14, 0, none⟩))]) (M := fun _ => [.blk b14 (rdO s (finR rp)), .blk b2 (cmdO c27)]) ?_ (fun hJr8 => ?_)
   ·
    intro _ _
    try dsimp only
    refine ae (hK11 _ _ ?_)
    refine ah fun K12 hK12 => ah fun K13 hK13 => aj (aa O O O (af O O) ?_)
    refine aa O O O (aZ O O) (aa O O O (au (k := 4) O O (by kernel_rfl) O) ?_)
    refine aa O O O (by first | exact al 0 O O O O (by kernel_rfl) | exact al 1 O O O O (by kernel_rfl)) ?_
    refine aa O O O (bl O O O) (ai ?_)
    refine ae (hK13 _ _ ?_)
    refine aH O (fun hc51 => ?_) (fun hc51 => ?_)
    ·
     have hz : (finR rp).e ≠ 0 := by simpa using hc51
     refine ah fun K14 hK14 => ck [0] mixed O O ?_
     simp only [List.replicate, List.length_cons, List.length_nil, Nat.reduceAdd, SL.selM, SL.nth]
     refine aG 0 O O O O (by kernel_rfl) (by kernel_rfl) (by kernel_rfl) O (fun _ _ _ h => h) [0] O O (bg [(0, 1), (1, 32), (33, 1), (34, 1), (35, 1), (36, 1), (37, 1), (38, 1), (39, 17)] [Seg.one (.int .i64 0) rfl, (B.zero 32).seg, Seg.one (str []) rfl, Seg.one (.int .i64 0) rfl, Seg.one (.bool false) rfl, Seg.one (.slice none 0 0) rfl, Seg.one (str []) rfl, Seg.one (.int .i64 0) rfl, Seg.one (.int .i64 0) rfl, (B.zero 16).seg] O O .nil (by kernel_rfl) (by kernel_rfl) O) ?_
     refine aG 1 O O O O (by kernel_rfl) (by kernel_rfl) (by kernel_rfl) O (fun _ _ _ h => h) [0] O O (af O O) ?_
     refine aG 2 O O O O (by kernel_rfl) (by kernel_rfl) (by kernel_rfl) O (fun _ _ _ h => h) [0] O O (aZ O O) ?_
     refine aG 3 O O O O (by kernel_rfl) (by kernel_rfl) (by kernel_rfl) O (fun _ _ _ h => h) [0] O O (au (k := 3) O O (by kernel_rfl) O) ?_
     refine aG 4 O O O O (by kernel_rfl) (by kernel_rfl) (by kernel_rfl) O (fun _ _ _ h => h) [0] O O (by first | exact al 0 O O O O (by kernel_rfl) | exact al 1 O O O O (by kernel_rfl)) ?_
     refine aG 5 O O O O (by kernel_rfl) (by kernel_rfl) (by kernel_rfl) O (fun _ _ _ h => h) [0] O O (af O O) ?_
     refine aG 6 O O O O (by kernel_rfl) (by kernel_rfl) (by kernel_rfl) O (fun _ _ _ h => h) [0] O O (aZ O O) ?_
     refine aG 7 O O O O (by kernel_rfl) (by kernel_rfl) (by kernel_rfl) O (fun _ _ _ h => h) [0] O O (au (k := 4) O O (by kernel_rfl) O) ?_
     refine aG 8 O O O O (by kernel_rfl) (by kernel_rfl) (by kernel_rfl) O (fun _ _ _ h => h) [0] O O (by first | exact al 0 O O O O (by kernel_rfl) | exact al 1 O O O O (by kernel_rfl)) ?_
     refine aY 9 O O (by kernel_rfl) O [0] (fun _ => rfl) O (by first | exact ap (k := 56) 0 _ O O O O O O (by kernel_rfl) O O | exact ap (k := 56) 1 _ O O O O O O (by kernel_rfl) O O) ?_
     intro _ _
     try simp only [setN, putD, selM, nth, cw, cx]
     refine aG 10 O O O O (by kernel_rfl) (by kernel_rfl) (by kernel_rfl) O (fun _ _ _ h => h) [0] O O (ak O O) ?_
     refine aG 11 O O O O (by kernel_rfl) (by kernel_rfl) (by kernel_rfl) O (fun _ _ _ h => h) [0] O O (ak O O) ?_
     refine bN (by kernel_rfl) ?_
     refine ae (hK14 _ _ ?_)
     refine aw (aB av) (ar O (.cons (by first | exact SL.RV.cellA 0 (k := 56) O O (by kernel_rfl) O (by kernel_rfl) | exact SL.RV.cellA 1 (k := 56) O O (by kernel_rfl) O (by kernel_rfl)) (.cons (.tmp O) (.cons (.tmp O) .nil))) O) (fun w' hM' hK' => ?_)
     exact ⟨(cmd0 0, (finR rp).bad), trivial, by rw [hE1]; rfl, hK', hM'.sel [] rfl⟩
    ·
     have hz : (finR rp).e = 0 := by simpa using hc51
     refine aC (ae ?_)
     refine hK12 _ _ (ah fun K15 hK15 => ?_)
     refine aj (aa O O O (by first | exact ay 0 (k := 56) O O O (by kernel_rfl) O (by kernel_rfl) | exact ay 1 (k := 56) O O O (by kernel_rfl) O (by kernel_rfl)) ?_)
     refine am O (by first | exact ap (k := 56) 0 _ O O O O O O (by kernel_rfl) O O | exact ap (k := 56) 1 _ O O O O O O (by kernel_rfl) O O) ?_
     intro _ _
     try simp only [setN, putD, selM, nth, cw, cx]
     refine aa O O O (ak O O) (aa O O O (ak O O) ?_)
     refine ai (ae ?_)
     refine hK15 _ _ (aw av (ar O (.cons (by first | exact SL.RV.cellA 0 (k := 56) O O (by kernel_rfl) O (by kernel_rfl) | exact SL.RV.cellA 1 (k := 56) O O (by kernel_rfl) O (by kernel_rfl)) (.cons (.tmp O) (.cons (.tmp O) .nil))) O) (fun w' hM' hK' => ?_))
     exact ⟨(c27, 0), trivial, by rw [hE1, hz]; rfl, hK', hM'.sel [] rfl⟩
   refine ah fun K16 hK16 => aj (aa O O O (af O O) ?_)
   refine aa O O O (aZ O O) (aa O O O (au (k := 4) O O (by kernel_rfl) O) ?_)
   refine aa O O O (by first | exact al 0 O O O O (by kernel_rfl) | exact al 1 O O O O (by kernel_rfl) | exact al 2 O O O O (by kernel_rfl)) ?_
   refine aa O O O (bt O O O) (aa O O O (af O O) ?_)
   refine aR (d := 33) O (fun hg33 => ?_) (fun hg33 => ?_)
   ·
    have he : rp.e = 0 := by simpa using hg33
    refine aq O O O O O O O (af O O) (aq O O O O O O O (aZ O O) ?_)
    refine aq O O O O O O O (au (k := 1) O O (by kernel_rfl) O) ?_
    refine aq O O O O O O O (by first | exact al 0 O O O O (by kernel_rfl) | exact al 1 O O O O (by kernel_rfl) | exact al 2 O O O O (by kernel_rfl)) ?_
    refine aq O O O O O O O (bB O O O) (aa O O O (aF O O O) ?_)
    refine ai (ae ?_)
    refine hK16 _ _ (aH O (fun hc39 => ?_) (fun hc39 => ?_))
    ·
     have hp : 0 ≤ rp.at_ := by simpa using hc39
     have hfin : finR rp = failM rp (rp.at_ - 1) 5 := if_pos ⟨he, hp⟩
     refine aj (aa O O O (af O O) ?_)
     refine aa O O O (af O O) (aa O O O (aZ O O) ?_)
     refine aa O O O (au (k := 1) O O (by kernel_rfl) O) ?_
     refine aa O O O (by first | exact al 0 O O O O (by kernel_rfl) | exact al 1 O O O O (by kernel_rfl) | exact al 2 O O O O (by kernel_rfl)) ?_
     refine aa O O O (bU O O O O (by omega) (by omega)) ?_
     refine am O (aM [0] [1, 2] O O (by kernel_rfl) O O O O (fun w hM hK => fail_c b14 s rp (rp.at_ - 1) 5 w (hM.sel [0] O).own)) ?_
     intro _ _
     try simp only [setN, putD, selM, nth, cw, cx]
     refine ai ?_
     exact bI (hJr8 () trivial) [0, 2] ⟨rfl, rfl, trivial⟩ (by rw [hfin]; rfl) rfl
    ·
     have hp : ¬ 0 ≤ rp.at_ := by simpa using hc39
     have hfin : finR rp = rp := if_neg (fun h => hp h.2)
     refine aC ?_
     exact bI (hJr8 () trivial) [0, 2] ⟨rfl, rfl, trivial⟩ (by rw [hfin]; rfl) rfl
   ·
    have he : ¬ rp.e = 0 := by simpa using hg33
    have hfin : finR rp = rp := if_neg (fun h => he h.1)
    refine ag O O O O O O O (ag O O O O O O O ?_)
    refine ag O O O O O O O (ag O O O O O O O ?_)
    refine ag O O O O O O O (aa O O O (aE O O O) ?_)
    refine ai (ae ?_)
    refine hK16 _ _ (bq O ?_)
    refine aC ?_
    exact bI (hJr8 () trivial) [0, 2] ⟨rfl, rfl, trivial⟩ (by rw [hfin]; rfl) rfl
end Go.Proofs.YthfhhkanpnemcaaGreatDoor
