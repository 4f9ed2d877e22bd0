/- Control texts: targets, groups, numbers, texts. Control texts: texts of definitions; the parts of a list; moderators. Control texts: moderators. The program's base64: decoding. The program's base64: Decode. -/
import Derived.Test.YthfhhkanpnemcaaGreatDoorM9
import Derived.Test.YthfhhkanpnemcaaGreatDoorM2
namespace Go.Proofs.YthfhhkanpnemcaaGreatDoor
open Go.SL Go.RowKit IntWalk
set_option linter.unusedVariables false
set_option maxRecDepth 100000
set_option linter.unusedSimpArgs false
set_option maxHeartbeats 400000

def targR (s : List UInt8) (r : Rd) : Rd := wantM (wantM (wordR s r) (midE (wordW s r) == 0) 3) (!decide (midV (wordW s r) = B.zero 32)) 1
theorem target_c (b : Nat) (s : List UInt8) (r : Rd) (hs : s.length ≤ 100000) (hr : r.at_ ≤ s.length) (hb : 6 ≤ b) (w : World) (hG : Glob w) (hm : Mem (blocksOf [.blk b (rdO s r)]) w [.blk b (rdO s r)] w) :
  Calls Tryz.prog 115 [.pointer (some ⟨b, 0, none⟩)].toArray w fun q w' => ∃ _ : Unit, True ∧ q = .returned (.agg (flat [(midV (wordW s r)).seg])) ∧ Post w (blocksOf [.blk b (rdO s r)]) [.blk b (rdO s (targR s r))] w' := by
 have hwl := wordW_len s r
 refine aJ (n := 23) (W := (blocksOf [.blk b (rdO s r)])) (m := [.blk b (rdO s r)]) Tryz.func115 O Tryz.ntmps115 O hm ?_
 simp only [SL.enum, Nat.reduceAdd]
 refine ah fun K1 hK1 => aj (am O (aX [(B.zero 32).seg] O O O (by kernel_rfl)) ?_)
 intro b2 _
 try simp only [setN, putD, selM, nth, cw, cx]
 refine ai (ae ?_)
 refine hK1 _ _ (ah fun K2 hK2 => ?_)
 refine aj (aa O O O (af O O) ?_)
 refine am O (aM [1] [0] O O (by kernel_rfl) O O O O (fun w hM hK => word_c b s r hs hr hb w (hG.keep1 hK hb) (hM.sel [1] O).own)) ?_
 intro _ _
 try simp only [setN, putD, selM, nth, cw, cx]
 refine am O (aM [] [0, 1] O O (by kernel_rfl) O O O O (fun w hM hK => midParse_c (wordW s r) (by omega) w)) ?_
 intro z9 _
 try simp only [setN, putD, selM, nth, cw, cx]
 refine aa O O O (af O O) (aa O O O (aW O O O) ?_)
 refine aa O O O (aW O O O) (aa O O O (aW O O O) ?_)
 refine am O (aX [(B.zero 32).seg] O O O (by kernel_rfl)) ?_
 intro b3 _
 try simp only [setN, putD, selM, nth, cw, cx]
 refine am O (by first | exact ap (k := 32) 0 _ O O O O O O (by kernel_rfl) O O | exact ap (k := 32) 1 _ O O O O O O (by kernel_rfl) O O | exact ap (k := 32) 2 _ O O O O O O (by kernel_rfl) O O) ?_
 intro _ _
 try simp only [setN, putD, selM, nth, cw, cx]
 refine aa O O O (ak O O) (aa O O O (ak O O) ?_)
 refine ai (ae ?_)
 refine hK2 _ _ (ah fun K3 hK3 => ?_)
 refine aj (aa O O O (af O O) ?_)
 refine aa O O O (af O O) (aa O O O (bt O O O) ?_)
 refine am O (aM [1] [0, 2] O O (by kernel_rfl) O O O O (fun w hM hK => want_c b s (wordR s r) (midE (wordW s r) == 0) 3 w (hM.sel [1] O).own)) ?_
 intro _ _
 try simp only [setN, putD, selM, nth, cw, cx]
 refine ai (ae ?_)
 refine hK3 _ _ (ah fun K4 hK4 => ?_)
 refine aj (aa O O O (af O O) ?_)
 refine aa O O O (by first | exact ay 0 (k := 32) O O O (by kernel_rfl) O (by kernel_rfl) | exact ay 1 (k := 32) O O O (by kernel_rfl) O (by kernel_rfl) | exact ay 2 (k := 32) O O O (by kernel_rfl) O (by kernel_rfl)) ?_
 refine aa O O O (bg [(0, 1), (1, 1), (2, 1), (3, 1), (4, 1), (5, 1), (6, 1), (7, 1), (8, 1), (9, 1), (10, 1), (11, 1), (12, 1), (13, 1), (14, 1), (15, 1), (16, 1), (17, 1), (18, 1), (19, 1), (20, 1), (21, 1), (22, 1), (23, 1), (24, 1), (25, 1), (26, 1), (27, 1), (28, 1), (29, 1), (30, 1), (31, 1)] [(B.zero 32).seg] O O .nil (by kernel_rfl) (by kernel_rfl) O) ?_
 refine aa O O O (SL.Pure.neB O O O Tryz.underlying26 Tryz.underlying5 (by kernel_rfl) (by kernel_rfl)) ?_
 refine am O (aM [0] [1, 2] O O (by kernel_rfl) O O O O (fun w hM hK => want_c b s (wantM (wordR s r) (midE (wordW s r) == 0) 3) (!decide (midV (wordW s r) = B.zero 32)) 1 w (hM.sel [0] O).own)) ?_
 intro _ _
 try simp only [setN, putD, selM, nth, cw, cx]
 refine ai (ae ?_)
 refine hK4 _ _ (ah fun K5 hK5 => ?_)
 refine aj (aa O O O (by first | exact ay 0 (k := 32) O O O (by kernel_rfl) O (by kernel_rfl) | exact ay 1 (k := 32) O O O (by kernel_rfl) O (by kernel_rfl) | exact ay 2 (k := 32) O O O (by kernel_rfl) O (by kernel_rfl)) ?_)
 refine am O (by first | exact ap (k := 32) 0 _ O O O O O O (by kernel_rfl) O O | exact ap (k := 32) 1 _ O O O O O O (by kernel_rfl) O O | exact ap (k := 32) 2 _ O O O O O O (by kernel_rfl) O O) ?_
 intro _ _
 try simp only [setN, putD, selM, nth, cw, cx]
 refine ai (ae ?_)
 refine hK5 _ _ (aw av (ar O (.cons (by first | exact SL.RV.cellA 0 (k := 32) O O (by kernel_rfl) O (by kernel_rfl) | exact SL.RV.cellA 1 (k := 32) O O (by kernel_rfl) O (by kernel_rfl) | exact SL.RV.cellA 2 (k := 32) O O (by kernel_rfl) O (by kernel_rfl)) .nil) O) (fun w' hM' hK' => ?_))
 exact ⟨(), trivial, rfl, hK', hM'.sel [0] rfl⟩

def grpR (s : List UInt8) (r : Rd) : Rd := wantM (wordR s r) (gnErr (wordW s r) == 0) 12
theorem group_c (b : Nat) (s : List UInt8) (r : Rd) (hs : s.length ≤ 100000) (hr : r.at_ ≤ s.length) (hb : 6 ≤ b) (w : World) (hG : Glob w) (hm : Mem (blocksOf [.blk b (rdO s r)]) w [.blk b (rdO s r)] w) :
  Calls Tryz.prog 117 [.pointer (some ⟨b, 0, none⟩)].toArray w fun q w' => ∃ _ : Unit, True ∧ q = .returned (str (wordW s r)) ∧ Post w (blocksOf [.blk b (rdO s r)]) [.blk b (rdO s (grpR s r))] w' := by
 have hwl := wordW_len s r
 refine aJ (n := 12) (W := (blocksOf [.blk b (rdO s r)])) (m := [.blk b (rdO s r)]) Tryz.func117 O Tryz.ntmps117 O hm ?_
 simp only [SL.enum, Nat.reduceAdd]
 refine ah fun K1 hK1 => aj (aa O O O (ak O O) ?_)
 refine ai (ae ?_)
 refine hK1 _ _ (ah fun K2 hK2 => ?_)
 refine aj (aa O O O (af O O) ?_)
 refine am O (aM [0] [] O O (by kernel_rfl) O O O O (fun w hM hK => word_c b s r hs hr hb w (hG.keep1 hK hb) (hM.sel [0] O).own)) ?_
 intro _ _
 try simp only [setN, putD, selM, nth, cw, cx]
 refine aa O O O (ak O O) (ai ?_)
 refine ae (hK2 _ _ ?_)
 refine ah fun K3 hK3 => aj (aa O O O (af O O) ?_)
 refine aa O O O (af O O) (am O (aN O O (by kernel_rfl) O O (fun w hM hK => gcheck_c (wordW s r) (by omega) w (hG.keep1 hK hb))) ?_)
 intro _ _
 try simp only [setN, putD, selM, nth, cw, cx]
 refine aa O O O (bt O O O) (am O (aM [0] [] O O (by kernel_rfl) O O O O (fun w hM hK => want_c b s (wordR s r) (gnErr (wordW s r) == 0) 12 w (hM.sel [0] O).own)) ?_)
 intro _ _
 try simp only [setN, putD, selM, nth, cw, cx]
 refine ai (ae ?_)
 refine hK3 _ _ (ah fun K4 hK4 => ?_)
 refine aj (aa O O O (af O O) ?_)
 refine aa O O O (ak O O) (ai ?_)
 refine ae (hK4 _ _ ?_)
 refine aw av (ar O (.cons (.tmp O) .nil) O) (fun w' hM' hK' => ?_)
 exact ⟨(), trivial, rfl, hK', hM'.sel [0] rfl⟩

/-- numbers: whether all fits so far, and the value so far -/
def numS (w : List UInt8) : Bool := decide (1 ≤ w.length) && decide (w.length ≤ 7) && (!decide (w.getD 0 0 = 48) || decide (w.length = 1))
def isDig (c : UInt8) : Bool := decide (48 ≤ c.toNat) && decide (c.toNat ≤ 57)
def numF (w : List UInt8) : Nat → Bool × Nat
 | 0 => (numS w, 0)
 | i + 1 => if (numF w i).1 && isDig (w.getD i 0) then (true, 10 * (numF w i).2 + ((w.getD i 0).toNat - 48)) else (false, (numF w i).2)
def numE (w : List UInt8) : Bool := (numF w w.length).1
def numV (w : List UInt8) : Nat := (numF w w.length).2
theorem numF_lt (w : List UInt8) : ∀ i, i ≤ w.length → (numF w i).2 < 10 ^ 7 ∧ ((numF w i).1 = true → w.length ≤ 7 ∧ (numF w i).2 < 10 ^ i)
 | 0, h => by
  refine ⟨by show (0 : Nat) < _; decide, fun h => ⟨?_, by show (0 : Nat) < _; decide⟩⟩
  have : numS w = true := h
  simp only [numS, Bool.and_eq_true, decide_eq_true_eq] at this
  exact this.1.2
 | i + 1, h => by
  obtain ⟨h1, h2⟩ := numF_lt w i (by omega)
  unfold numF
  by_cases hc : ((numF w i).1 && isDig (w.getD i 0)) = true
  ·
   rw [if_pos hc]
   simp only [Bool.and_eq_true] at hc
   obtain ⟨h3, h4⟩ := h2 hc.1
   have hd : (w.getD i 0).toNat - 48 ≤ 9 := by
    have := hc.2
    simp only [isDig, Bool.and_eq_true, decide_eq_true_eq] at this
    omega
   have h5 : 10 * (numF w i).2 + ((w.getD i 0).toNat - 48) < 10 ^ (i + 1) := by rw [Nat.pow_succ]; omega
   exact ⟨Nat.lt_of_lt_of_le h5 (Nat.pow_le_pow_right (by decide) (by omega)), fun _ => ⟨h3, h5⟩⟩
  ·
   rw [if_neg hc]
   exact ⟨h1, fun h => by cases h⟩

def numR (s : List UInt8) (r : Rd) (lo hi : Int) : Rd := wantM (wantM (wordR s r) (numE (wordW s r)) 3) (decide (lo ≤ (numV (wordW s r) : Int)) && decide ((numV (wordW s r) : Int) ≤ hi)) 2
theorem number_c (b : Nat) (s : List UInt8) (r : Rd) (lo hi : Int) (hs : s.length ≤ 100000) (hr : r.at_ ≤ s.length) (hb : 6 ≤ b) (w : World) (hG : Glob w) (hm : Mem (blocksOf [.blk b (rdO s r)]) w [.blk b (rdO s r)] w) :
  Calls Tryz.prog 121 [.pointer (some ⟨b, 0, none⟩), .int .i64 lo, .int .i64 hi].toArray w fun q w' => ∃ _ : Unit, True ∧ q = .returned (.int .i64 (numV (wordW s r))) ∧ Post w (blocksOf [.blk b (rdO s r)]) [.blk b (rdO s (numR s r lo hi))] w' := by
 have hwl := wordW_len s r
 generalize hw0 : wordW s r = v at *
 have hdef : numR s r lo hi = wantM (wantM (wordR s r) (numE v) 3) (decide (lo ≤ (numV v : Int)) && decide ((numV v : Int) ≤ hi)) 2 := by rw [numR, hw0]
 refine aJ (n := 70) (W := (blocksOf [.blk b (rdO s r)])) (m := [.blk b (rdO s r)]) Tryz.func121 O Tryz.ntmps121 O hm ?_
 simp only [SL.enum, Nat.reduceAdd]
 refine ah fun K1 hK1 => aj (aa O O O (ak O O) ?_)
 refine ai (ae ?_)
 refine hK1 _ _ (ah fun K2 hK2 => ?_)
 refine aj (aa O O O (af O O) ?_)
 refine am O (aM [0] [] O O (by kernel_rfl) O O O O (fun w hM hK => (by have h := word_c b s r hs hr hb w (hG.keep1 hK hb) (hM.sel [0] O).own; rw [hw0] at h; exact h))) ?_
 intro _ _
 try simp only [setN, putD, selM, nth, cw, cx]
 refine aa O O O (ak O O) (ai ?_)
 refine ae (hK2 _ _ ?_)
 refine ah fun K3 hK3 => aj (aa O O O (ak O O) ?_)
 refine ai (ae ?_)
 refine hK3 _ _ (ah fun K4 hK4 => ?_)
 refine cq (X := Unit) (φ := fun _ => True) (L := fun _ => [(0, .pointer (some ⟨b, 0, none⟩)), (1, .int .i64 lo), (2, .int .i64 hi), (7, str v), (8, .int .i64 ((0 : Nat) : Int)), (9, .bool (numS v))]) (M := fun _ => [.blk b (rdO s (wordR s r))]) ?_ (fun hJa3 => ?_)
 ·
  intro _ _
  try dsimp only
  refine ae (hK4 _ _ ?_)
  refine ah fun K5 hK5 => ah fun K6 hK6 => aj (aa O O O (af O O) ?_)
  refine aa O O O (bf O O O Tryz.underlying9) (aa O O O (af O O) ?_)
  refine ai (ae ?_)
  refine hK6 _ _ (aK ?_)
  refine bu (X := (Nat × Bool × Nat)) (φ := fun X => X.1 ≤ v.length ∧ numF v X.1 = X.2) (L := fun X => [(0, .pointer (some ⟨b, 0, none⟩)), (1, .int .i64 lo), (2, .int .i64 hi), (7, str v), (8, .int .i64 (X.2.2 : Int)), (9, .bool X.2.1), (32, .int .i64 v.length), (33, .int .i64 X.1)]) (M := fun X => [.blk b (rdO s (wordR s r))]) (μ := fun X => v.length - X.1) ?_ ?_
  ·
   exact fun _ _ st => ⟨(0, numS v, 0), ⟨Nat.zero_le _, rfl⟩, st.to [0] ⟨rfl, rfl, rfl, rfl, rfl, rfl, rfl, rfl, trivial⟩ O rfl⟩
  ·
   intro ⟨i, ok, n⟩ ⟨hi', hnf⟩
   try dsimp only
   dsimp only at hi' hnf
   have hnl := numF_lt v i hi'
   rw [hnf] at hnl
   have hnl1 : n < 10 ^ 7 := hnl.1
   have hstep : numF v (i + 1) = if ok && isDig (v.getD i 0) then (true, 10 * n + ((v.getD i 0).toNat - 48)) else (false, n) := by rw [numF, hnf]
   refine ah fun K7 hK7 => aj (aa O O O (aT O O O) ?_)
   refine ai (ae ?_)
   refine hK7 _ _ (ah fun K8 hK8 => ?_)
   refine aH O (fun hc34 => ?_) (fun hc34 => ?_)
   ·
    have hlt : i < v.length := by simp at hc34; omega
    have hci : v[((i : Nat) : Int).toNat]? = some (v.getD i 0) := by rw [Int.toNat_natCast]; exact gD hlt
    have hu := (v.getD i 0).toNat_lt
    refine aC (ae ?_)
    refine hK8 _ _ (ah fun K9 hK9 => ?_)
    refine aK (ah fun K10 hK10 => ?_)
    refine aj (aa O O O (af O O) ?_)
    refine aa O O O (ak O O) (ai ?_)
    refine ae (hK10 _ _ ?_)
    refine ah fun K11 hK11 => ah fun K12 hK12 => aj (aa O O O (af O O) ?_)
    refine aa O O O (af O O) (aa O O O (bQ O O O Tryz.underlying9 (by omega) hci) ?_)
    refine aa O O O (aT O O O) (aa O O O (af O O) ?_)
    refine aR (d := 40) O (fun hg40 => ?_) (fun hg40 => ?_)
    ·
     have hlo : ¬ isDig (v.getD i 0) = true := by simp [-List.getD_eq_getElem?_getD] at hg40; simp [-List.getD_eq_getElem?_getD, isDig]; omega
     refine ag O O O O O O O (ag O O O O O O O ?_)
     refine ag O O O O O O O (ag O O O O O O O ?_)
     refine aa O O O (aF O O O) (ai ?_)
     refine ae (hK12 _ _ ?_)
     refine bk O (aj ?_)
     refine aa O O O (ak O O) (ai ?_)
     refine ae (hK11 _ _ ?_)
     refine ah fun K13 hK13 => aj (aa O O O (af O O) ?_)
     refine ai (ae ?_)
     refine hK13 _ _ (bq O ?_)
     refine aC (aQ ?_)
     refine ae (hK9 _ _ ?_)
     refine aj (aa O O O (aL O O O O (by omega) (by omega)) ?_)
     refine aa O O O (af O O) (ai ?_)
     refine ae ?_
     exact bd (i + 1, false, n) [0] ⟨hlt, by rw [hstep, if_neg (by simp only [Bool.and_eq_true]; exact fun h => hlo h.2)]⟩ (show v.length - (i + 1) < v.length - i by omega) ⟨rfl, rfl, rfl, rfl, rfl, rfl, rfl, rfl, trivial⟩ O rfl
    ·
     have hlo : 48 ≤ (v.getD i 0).toNat := by simp [-List.getD_eq_getElem?_getD] at hg40; omega
     refine aq O O O O O O O (af O O) (aq O O O O O O O (af O O) ?_)
     refine aq O O O O O O O (bQ O O O Tryz.underlying9 (by omega) hci) ?_
     refine aq O O O O O O O (bH O O O) (aa O O O (aE O O O) ?_)
     refine ai (ae ?_)
     refine hK12 _ _ (aH O (fun hc45 => ?_) (fun hc45 => ?_))
     ·
      have hbd : ¬ isDig (v.getD i 0) = true := by simp [-List.getD_eq_getElem?_getD] at hc45; simp [-List.getD_eq_getElem?_getD, isDig]; omega
      refine aj (aa O O O (ak O O) ?_)
      refine ai (ae ?_)
      refine hK11 _ _ (ah fun K14 hK14 => ?_)
      refine aj (aa O O O (af O O) ?_)
      refine ai (ae ?_)
      refine hK14 _ _ (bq O ?_)
      refine aC (aQ ?_)
      refine ae (hK9 _ _ ?_)
      refine aj (aa O O O (aL O O O O (by omega) (by omega)) ?_)
      refine aa O O O (af O O) (ai ?_)
      refine ae ?_
      exact bd (i + 1, false, n) [0] ⟨hlt, by rw [hstep, if_neg (by simp only [Bool.and_eq_true]; exact fun h => hbd h.2)]⟩ (show v.length - (i + 1) < v.length - i by omega) ⟨rfl, rfl, rfl, rfl, rfl, rfl, rfl, rfl, trivial⟩ O rfl
     ·
      have hgd : isDig (v.getD i 0) = true := by simp [-List.getD_eq_getElem?_getD] at hc45; simp [-List.getD_eq_getElem?_getD, isDig]; omega
      refine aC (ae ?_)
      refine hK11 _ _ (ah fun K15 hK15 => ?_)
      refine aj (aa O O O (af O O) ?_)
      refine ai (ae ?_)
      refine hK15 _ _ (aH O (fun hc46 => ?_) (fun hc46 => ?_))
      ·
       have hok : ok = true := by simpa using hc46
       refine aj (aa O O O (af O O) ?_)
       refine aa O O O (ct (r := ((10 * n : Nat) : Int)) O O O (by omega) (by omega) (by omega)) ?_
       refine aa O O O (af O O) (aa O O O (af O O) ?_)
       refine aa O O O (bQ O O O Tryz.underlying9 (by omega) hci) ?_
       refine aa O O O (SL.Pure.subW (r := (((v.getD i 0).toNat - 48 : Nat) : Int)) O O O (by rw [IntKind.wrap_u8]; simp only [isDig, Bool.and_eq_true, decide_eq_true_eq] at hgd; omega)) ?_
       refine aa O O O (bT (r := (((v.getD i 0).toNat - 48 : Nat) : Int)) O O (by kernel_rfl) Tryz.underlying3 (by rw [IntKind.wrap_i64]; omega)) ?_
       refine aa O O O (aL (r := ((10 * n + ((v.getD i 0).toNat - 48) : Nat) : Int)) O O O (by omega) (by omega) (by omega)) ?_
       refine aa O O O (ak O O) (ai ?_)
       refine aQ (ae ?_)
       refine hK9 _ _ (aj ?_)
       refine aa O O O (aL O O O O (by omega) (by omega)) ?_
       refine aa O O O (af O O) (ai ?_)
       refine ae ?_
       exact bd (i + 1, ok, _) [0] ⟨hlt, by rw [hstep, hok, hgd]; rfl⟩ (show v.length - (i + 1) < v.length - i by omega) ⟨rfl, rfl, rfl, rfl, rfl, rfl, rfl, rfl, trivial⟩ O rfl
      ·
       have hok : ok = false := by simpa using hc46
       refine aC (aQ ?_)
       refine ae (hK9 _ _ ?_)
       refine aj (aa O O O (aL O O O O (by omega) (by omega)) ?_)
       refine aa O O O (af O O) (ai ?_)
       refine ae ?_
       exact bd (i + 1, ok, n) [0] ⟨hlt, by rw [hstep, hok]; rfl⟩ (show v.length - (i + 1) < v.length - i by omega) ⟨rfl, rfl, rfl, rfl, rfl, rfl, rfl, rfl, trivial⟩ O rfl
   ·
    have hge : i = v.length := by simp at hc34; omega
    rw [hge] at hnf
    have hE : numE v = ok := by rw [numE, hnf]
    have hV : numV v = n := by rw [numV, hnf]
    rw [hE, hV] at hdef
    refine aU (aI ?_)
    refine aI (aV ?_)
    refine ae (hK5 _ _ ?_)
    refine ah fun K16 hK16 => cq (X := Unit) (φ := fun _ => True) (L := fun _ => [(0, .pointer (some ⟨b, 0, none⟩)), (1, .int .i64 lo), (2, .int .i64 hi), (8, .int .i64 (n : Int))]) (M := fun _ => [.blk b (rdO s (wantM (wordR s r) ok 3))]) ?_ (fun hJa12 => ?_)
    ·
     intro _ _
     try dsimp only
     refine ae (hK16 _ _ ?_)
     refine ah fun K17 hK17 => aj (aa O O O (af O O) ?_)
     refine aa O O O (af O O) (aa O O O (af O O) ?_)
     refine aa O O O (bB O O O) (aa O O O (af O O) ?_)
     refine aR (d := 63) O (fun hg63 => ?_) (fun hg63 => ?_)
     ·
      have hlo : lo ≤ (n : Int) := by simpa using hg63
      rw [decide_eq_true hlo, Bool.true_and] at hdef
      refine aq O O O O O O O (af O O) (aq O O O O O O O (af O O) ?_)
      refine aq O O O O O O O (bD O O O) (aa O O O (aF O O O) ?_)
      refine am O (aM [0] [] O O (by kernel_rfl) O O O O (fun w hM hK => want_c b s (wantM (wordR s r) ok 3) _ 2 w (hM.sel [0] O).own)) ?_
      intro _ _
      try simp only [setN, putD, selM, nth, cw, cx]
      refine ai (ae ?_)
      refine hK17 _ _ (ah fun K18 hK18 => ?_)
      refine aj (aa O O O (af O O) ?_)
      refine aa O O O (ak O O) (ai ?_)
      refine ae (hK18 _ _ ?_)
      refine aw av (ar O (.cons (.tmp O) .nil) O) (fun w' hM' hK' => ?_)
      exact ⟨(), trivial, by rw [hV]; rfl, hK', by rw [hdef]; exact hM'.sel [0] rfl⟩
     ·
      have hlo : ¬ lo ≤ (n : Int) := by simpa using hg63
      rw [decide_eq_false hlo, Bool.false_and] at hdef
      refine ag O O O O O O O (ag O O O O O O O ?_)
      refine ag O O O O O O O (aa O O O (aE O O O) ?_)
      refine am O (aM [0] [] O O (by kernel_rfl) O O O O (fun w hM hK => want_c b s (wantM (wordR s r) ok 3) _ 2 w (hM.sel [0] O).own)) ?_
      intro _ _
      try simp only [setN, putD, selM, nth, cw, cx]
      refine ai (ae ?_)
      refine hK17 _ _ (ah fun K19 hK19 => ?_)
      refine aj (aa O O O (af O O) ?_)
      refine aa O O O (ak O O) (ai ?_)
      refine ae (hK19 _ _ ?_)
      refine aw av (ar O (.cons (.tmp O) .nil) O) (fun w' hM' hK' => ?_)
      exact ⟨(), trivial, by rw [hV]; rfl, hK', by rw [hdef]; exact hM'.sel [0] rfl⟩
    refine aj (aa O O O (af O O) ?_)
    refine aa O O O (af O O) (am O (aM [0] [] O O (by kernel_rfl) O O O O (fun w hM hK => want_c b s (wordR s r) ok 3 w (hM.sel [0] O).own)) ?_)
    intro _ _
    try simp only [setN, putD, selM, nth, cw, cx]
    refine ai ?_
    exact bI (hJa12 () trivial) [0] ⟨rfl, rfl, rfl, rfl, trivial⟩ O rfl
 refine aj (aa O O O (af O O) ?_)
 refine aa O O O (bf O O O Tryz.underlying9) (aa O O O (bB O O O) ?_)
 refine aa O O O (af O O) (aR (d := 16) O (fun hg16 => ?_) (fun hg16 => ?_))
 ·
  have hl1 : 1 ≤ v.length := by simp at hg16; omega
  refine aq O O O O O O O (af O O) (aq O O O O O O O (bf O O O Tryz.underlying9) ?_)
  refine aq O O O O O O O (bD O O O) (aa O O O (aF O O O) ?_)
  refine aa O O O (af O O) (aR (d := 21) O (fun hg21 => ?_) (fun hg21 => ?_))
  ·
   have hl7 : v.length ≤ 7 := by simp at hg21; omega
   have h0 : v[(0 : Int).toNat]? = some (v.getD 0 0) := gD (by omega)
   refine aq O O O O O O O (af O O) (aq O O O O O O O (bQ O O O Tryz.underlying9 (by omega) (by assumption)) ?_)
   refine aq O O O O O O O (bl O O O) (aq O O O O O O O (af O O) ?_)
   refine aR (d := 25) O (fun hg25 => ?_) (fun hg25 => ?_)
   ·
    have h48 : ¬ v.getD 0 0 = 48 := fun h => by rw [h] at hg25; simp at hg25
    refine ag O O O O O O O (ag O O O O O O O ?_)
    refine ag O O O O O O O (aq O O O O O O O (aF O O O) ?_)
    refine aa O O O (aF O O O) (aa O O O (ak O O) ?_)
    refine ai ?_
    exact bI (hJa3 () trivial) [0] ⟨rfl, rfl, rfl, rfl, rfl, by rw [numS, decide_eq_true hl1, decide_eq_true hl7, decide_eq_false h48]; rfl, trivial⟩ O rfl
   ·
    have hu48 : ((v.getD 0 0).toNat : Int) = 48 := by simpa [-List.getD_eq_getElem?_getD] using hg25
    have h48 : v.getD 0 0 = 48 := UInt8.toNat_inj.1 (by simpa [-List.getD_eq_getElem?_getD] using (by omega : (v.getD 0 0).toNat = 48))
    refine aq O O O O O O O (af O O) (aq O O O O O O O (bf O O O Tryz.underlying9) ?_)
    refine aq O O O O O O O (bt O O O) (aq O O O O O O O (aE O O O) ?_)
    refine aa O O O (aF O O O) (aa O O O (ak O O) ?_)
    refine ai ?_
    exact bI (hJa3 () trivial) [0] ⟨rfl, rfl, rfl, rfl, rfl, by rw [numS, decide_eq_true hl1, decide_eq_true hl7, decide_eq_true h48]; simp [SL.look]; omega, trivial⟩ O rfl
  ·
   have hl7 : ¬ v.length ≤ 7 := by simp at hg21; omega
   refine ag O O O O O O O (ag O O O O O O O ?_)
   refine ag O O O O O O O (ag O O O O O O O ?_)
   refine bO O O O O O O (bO O O O O O O ?_)
   refine bO O O O O O O (ag O O O O O O O ?_)
   refine aa O O O (aE O O O) (aa O O O (ak O O) ?_)
   refine ai ?_
   exact bI (hJa3 () trivial) [0] ⟨rfl, rfl, rfl, rfl, rfl, by rw [numS, decide_eq_true hl1, decide_eq_false hl7]; rfl, trivial⟩ O rfl
 ·
  have hl1 : ¬ 1 ≤ v.length := by simp at hg16; omega
  refine ag O O O O O O O (ag O O O O O O O ?_)
  refine ag O O O O O O O (aa O O O (aE O O O) ?_)
  refine aa O O O (af O O) (ag O O O O O O O ?_)
  refine ag O O O O O O O (ag O O O O O O O ?_)
  refine ag O O O O O O O (bO O O O O O O ?_)
  refine bO O O O O O O (bO O O O O O O ?_)
  refine ag O O O O O O O (aa O O O (aE O O O) ?_)
  refine aa O O O (ak O O) (ai ?_)
  exact bI (hJa3 () trivial) [0] ⟨rfl, rfl, rfl, rfl, rfl, by rw [numS, decide_eq_false hl1]; rfl, trivial⟩ O rfl
end Go.Proofs.YthfhhkanpnemcaaGreatDoor
namespace Go.SL
open Go.RowKit
section
variable {P : Program} {n : Nat}
theorem Mem.afterYield {S B : Nat → Prop} {wb w w' : World} {m : List Res} (h : Mem S wb m w) (hB : ∀ k, blocksOf m k → B k) (hk : Keeps (fun k => ¬ B k) w w') : Mem (blocksOf m) w' m w' :=
 ⟨fun r hr => Res.keeps (h.holds r hr) hk (fun k hb hn => hn (hB k ⟨r, hr, hb⟩)), fun r hr k hb => .inr ⟨r, hr, hb⟩, h.apart⟩
end
end Go.SL
namespace Go.Proofs.YthfhhkanpnemcaaGreatDoor
open Go.SL Go.RowKit IntWalk
set_option linter.unusedVariables false
set_option maxRecDepth 100000
set_option linter.unusedSimpArgs false
set_option maxHeartbeats 400000

def txC (c : UInt8) : Bool := decide (c.toNat < 32) || decide (126 < c.toNat)
def txE (s : List UInt8) : Int := if 200 < s.length then 5 else if s.any txC then 6 else if pfx s [32] || sfx s [32] then 3 else 0
theorem checkText_c (s : List UInt8) (hs : s.length ≤ 100000000) (w : World) : Calls Tryz.prog 144 [str s].toArray w fun e w' => e = .returned (.int .i64 (txE s)) ∧ Keeps none1 w w' := by
 refine aJ (n := 29) (W := SL.none1) (m := []) Tryz.func144 O Tryz.ntmps144 O (aO _ _ _) ?_
 simp only [SL.enum, Nat.reduceAdd]
 refine ah fun K1 hK1 => aj (aa O O O (ak O O) ?_)
 refine ai (ae ?_)
 refine hK1 _ _ (ah fun K2 hK2 => ?_)
 refine ah fun K3 hK3 => aj (aa O O O (af O O) ?_)
 refine aa O O O (bf O O O Tryz.underlying9) (aa O O O (bH O O O) ?_)
 refine ai (ae ?_)
 refine hK3 _ _ (aH O (fun hc6 => ?_) (fun hc6 => ?_))
 ·
  have hl : 200 < s.length := by simp at hc6; omega
  refine ah fun K4 hK4 => aj (aa O O O (ak O O) ?_)
  refine ai (ae ?_)
  refine hK4 _ _ (aw (aB av) (ar O (.cons (.tmp O) .nil) O) (fun w' hM' hK' => ?_))
  exact ⟨by rw [txE, if_pos hl]; rfl, hK'⟩
 ·
  have hl : ¬ 200 < s.length := by simp at hc6; omega
  refine aC (ae ?_)
  refine hK2 _ _ (ah fun K5 hK5 => ?_)
  refine ah fun K6 hK6 => aj (aa O O O (af O O) ?_)
  refine aa O O O (bf O O O Tryz.underlying9) (aa O O O (af O O) ?_)
  refine ai (ae ?_)
  refine hK6 _ _ (aK ?_)
  refine bu (X := Nat) (φ := fun i => i ≤ s.length ∧ (s.take i).any txC = false) (L := fun i => [(0, str s), (8, .int .i64 s.length), (9, .int .i64 i)]) (M := fun i => []) (μ := fun i => s.length - i) ?_ ?_
  ·
   exact fun _ _ st => ⟨0, ⟨Nat.zero_le _, by simp⟩, st.to [] ⟨rfl, rfl, rfl, trivial⟩ O rfl⟩
  ·
   intro i ⟨hi, hno⟩
   try dsimp only
   refine ah fun K7 hK7 => aj (aa O O O (aT O O O) ?_)
   refine ai (ae ?_)
   refine hK7 _ _ (ah fun K8 hK8 => ?_)
   refine aH O (fun hc10 => ?_) (fun hc10 => ?_)
   ·
    have hlt : i < s.length := by simp at hc10; omega
    have hci : s[((i : Nat) : Int).toNat]? = some (s.getD i 0) := by rw [Int.toNat_natCast]; exact gD hlt
    have htk : (s.take (i + 1)).any txC = txC (s.getD i 0) := by
     rw [List.take_succ_eq_append_getElem hlt, List.any_append, hno]
     simp [List.getD, hlt]
    refine aC (ae ?_)
    refine hK8 _ _ (ah fun K9 hK9 => ?_)
    refine aK (ah fun K10 hK10 => ?_)
    refine aj (aa O O O (af O O) ?_)
    refine aa O O O (ak O O) (ai ?_)
    refine ae (hK10 _ _ ?_)
    refine ah fun K11 hK11 => aj (aa O O O (af O O) ?_)
    refine aa O O O (af O O) (aa O O O (bQ O O O Tryz.underlying9 (by omega) hci) ?_)
    refine aa O O O (aT O O O) (aa O O O (af O O) ?_)
    refine aR (d := 16) O (fun hg16 => ?_) (fun hg16 => ?_)
    ·
     have hb : txC (s.getD i 0) = true := by simp [-List.getD_eq_getElem?_getD] at hg16; simp [-List.getD_eq_getElem?_getD, txC]; omega
     refine ag O O O O O O O (ag O O O O O O O ?_)
     refine ag O O O O O O O (ag O O O O O O O ?_)
     refine aa O O O (aF O O O) (ai ?_)
     refine ae (hK11 _ _ ?_)
     refine bk O (ah fun K12 hK12 => ?_)
     refine aj (aa O O O (ak O O) ?_)
     refine ai (ae ?_)
     refine hK12 _ _ (aw (aP (aB (aB (aP (aB av))))) (ar O (.cons (.tmp O) .nil) O) (fun w' hM' hK' => ?_))
     exact ⟨by rw [txE, if_neg hl, if_pos]; rfl; rw [List.any_eq_true]; exact ⟨_, by rw [show s.getD i 0 = s[i] by simp [List.getD, hlt]]; exact List.getElem_mem hlt, hb⟩, hK'⟩
    ·
     have hb0 : ¬ (s.getD i 0).toNat < 32 := by simp [-List.getD_eq_getElem?_getD] at hg16; omega
     refine aq O O O O O O O (af O O) (aq O O O O O O O (af O O) ?_)
     refine aq O O O O O O O (bQ O O O Tryz.underlying9 (by omega) hci) ?_
     refine aq O O O O O O O (bH O O O) (aa O O O (aE O O O) ?_)
     refine ai (ae ?_)
     refine hK11 _ _ (aH O (fun hc21 => ?_) (fun hc21 => ?_))
     ·
      have hb : txC (s.getD i 0) = true := by simp [-List.getD_eq_getElem?_getD] at hc21; simp [-List.getD_eq_getElem?_getD, txC]; omega
      refine ah fun K13 hK13 => aj (aa O O O (ak O O) ?_)
      refine ai (ae ?_)
      refine hK13 _ _ (aw (aP (aB (aB (aP (aB av))))) (ar O (.cons (.tmp O) .nil) O) (fun w' hM' hK' => ?_))
      exact ⟨by rw [txE, if_neg hl, if_pos]; rfl; rw [List.any_eq_true]; exact ⟨_, by rw [show s.getD i 0 = s[i] by simp [List.getD, hlt]]; exact List.getElem_mem hlt, hb⟩, hK'⟩
     ·
      have hg : txC (s.getD i 0) = false := by simp [-List.getD_eq_getElem?_getD] at hc21; simp [-List.getD_eq_getElem?_getD, txC]; omega
      refine aC (aQ ?_)
      refine ae (hK9 _ _ ?_)
      refine aj (aa O O O (aL O O O O (by omega) (by omega)) ?_)
      refine aa O O O (af O O) (ai ?_)
      refine ae ?_
      exact bd (i + 1) [] ⟨by omega, by rw [htk, hg]⟩ (show s.length - (i + 1) < s.length - i by omega) ⟨rfl, rfl, rfl, trivial⟩ O rfl
   ·
    have hge : i = s.length := by simp at hc10; omega
    rw [hge, List.take_length] at hno
    refine aU (aI ?_)
    refine aI (aV ?_)
    refine ae (hK5 _ _ ?_)
    refine ah fun K14 hK14 => ah fun K15 hK15 => aj (aa O O O (af O O) ?_)
    refine am O (aN O O (by kernel_rfl) O O (fun w hM hK => hasPrefix_c s [32] w (by omega) (by decide))) ?_
    intro _ _
    try simp only [setN, putD, selM, nth, cw, cx]
    refine aa O O O (af O O) (aR (d := 25) O (fun hg25 => ?_) (fun hg25 => ?_))
    ·
     have hp : pfx s [32] = true := by simpa using hg25
     refine ag O O O O O O O (ag O O O O O O O ?_)
     refine aa O O O (aF O O O) (ai ?_)
     refine ae (hK15 _ _ ?_)
     refine bk O (ah fun K16 hK16 => ?_)
     refine aj (aa O O O (ak O O) ?_)
     refine ai (ae ?_)
     refine hK16 _ _ (aw (aB av) (ar O (.cons (.tmp O) .nil) O) (fun w' hM' hK' => ?_))
     exact ⟨by rw [txE, if_neg hl, hno, if_neg (by decide), hp]; rfl, hK'⟩
    ·
     have hp : pfx s [32] = false := by simpa using hg25
     refine aq O O O O O O O (af O O) (SL.Ok.effG O O O O O (aN O O (by kernel_rfl) O O (fun w hM hK => hasSuffix_c s [32] w (by omega) (by decide))) ?_)
     intro _ _
     simp only [setN, putD, selM, nth, cw, cx]
     refine aa O O O (aE O O O) (ai ?_)
     refine ae (hK15 _ _ ?_)
     refine aH O (fun hc28 => ?_) (fun hc28 => ?_)
     ·
      have hp2 : sfx s [32] = true := by simpa using hc28
      refine ah fun K17 hK17 => aj (aa O O O (ak O O) ?_)
      refine ai (ae ?_)
      refine hK17 _ _ (aw (aB av) (ar O (.cons (.tmp O) .nil) O) (fun w' hM' hK' => ?_))
      exact ⟨by rw [txE, if_neg hl, hno, if_neg (by decide), hp, hp2]; rfl, hK'⟩
     ·
      have hp2 : sfx s [32] = false := by simpa using hc28
      refine aC (ae ?_)
      refine hK14 _ _ (ah fun K18 hK18 => ?_)
      refine aj (aa O O O (ak O O) ?_)
      refine ai (ae ?_)
      refine hK18 _ _ (aw av (ar O (.cons (.tmp O) .nil) O) (fun w' hM' hK' => ?_))
      exact ⟨by rw [txE, if_neg hl, hno, if_neg (by decide), hp, hp2]; rfl, hK'⟩

theorem index_c (s p : List UInt8) (hs : s.length ≤ 100000000) (w : World) (hG : Glob w) : Calls Tryz.prog 108 [str s, str p].toArray w fun e w' => e = .returned (.int .i64 (Lib.index s p)) ∧ Keeps none1 w w' := by
 obtain ⟨m, hm⟩ := hG.max
 refine (Any.strings_Index (ρ := Tryz.lays144_ren) { Tryz.lays144 with } ⟨s.toArray⟩ ⟨p.toArray⟩ m w (by rw [str_size]; omega) hm).mono fun e w' ⟨he, hw⟩ => ⟨?_, hw ▸ Keeps.refl _ _⟩
 rw [he]

/-- the parts between commas -/
def comF : Nat → List UInt8 → List (List UInt8)
 | 0, s => [s]
 | k + 1, s => if 0 ≤ Lib.index s [44] then s.take (Lib.index s [44]).toNat :: comF k (s.drop ((Lib.index s [44]).toNat + 1)) else [s]
def comma (s : List UInt8) : List (List UInt8) := comF s.length s
theorem comF_last {k : Nat} {s : List UInt8} (h : ¬ 0 ≤ Lib.index s [44]) : comF k s = [s] := by
 cases k with
 | zero => rfl
 | succ k => rw [comF, if_neg h]
theorem idx_nil : ¬ 0 ≤ Lib.index [] [44] := by decide

abbrev str1 (s : List UInt8) : List Value := [str s]
abbrev spM (b1 b2 b3 : Nat) (t : List UInt8) : List Res := [.blk b1 (strO [44]), .blk b2 (strO t), .blk b3 (intO 0)]
theorem spB (b1 b2 b3 : Nat) (s t : List UInt8) (k : Nat) (h : blocksOf (spM b1 b2 b3 s) k) : blocksOf (spM b1 b2 b3 t) k := by
 obtain ⟨r, hr, hk⟩ := h
 simp only [List.mem_cons, List.not_mem_nil, or_false] at hr
 rcases hr with rfl | rfl | rfl
 ·
  exact ⟨_, List.mem_cons_self, hk⟩
 ·
  exact ⟨_, List.mem_cons_of_mem _ List.mem_cons_self, hk⟩
 ·
  exact ⟨_, List.mem_cons_of_mem _ (List.mem_cons_of_mem _ List.mem_cons_self), hk⟩

theorem comma_iter (s : List UInt8) (hl : s.length ≤ 1000000) (b1 b2 b3 : Nat) (h6 : 6 ≤ b1 ∧ 6 ≤ b2 ∧ 6 ≤ b3) (w0 : World) (hG : Glob w0) {S : Nat → Prop} {wb : World} (hm0 : Mem S wb (spM b1 b2 b3 s) w0) : IterF Tryz.prog 184 [.pointer (some ⟨b1, 0, none⟩), .pointer (some ⟨b2, 0, none⟩), .pointer (some ⟨b3, 0, none⟩)] (blocksOf (spM b1 b2 b3 s)) (fun k => blocksOf (spM b1 b2 b3 s) k ∨ k < 6) ((comma s).map str1) w0 := by
 intro lr J Jx W hW hJ hJx hY h0
 have hmW : Mem (blocksOf (spM b1 b2 b3 s)) W (spM b1 b2 b3 s) W := hm0.afterYield (fun k h => .inl h) hW
 have hno6 : ∀ t, ∀ r ∈ spM b1 b2 b3 t, ∀ k, r.block = some k → 6 ≤ k := by
  intro t r hr k hk
  simp only [List.mem_cons, List.not_mem_nil, or_false] at hr
  rcases hr with rfl | rfl | rfl <;> simp only [Res.block, Option.some.injEq] at hk <;> omega
 have hGB : ∀ k, k < 6 → ¬ ¬ (blocksOf (spM b1 b2 b3 s) k ∨ k < 6) := fun k hk hn => hn (.inr hk)
 have hGW : Glob W := hG.keepS hW hGB
 refine callsI (ro := none) (SL.calls_okM (n := 52) (W := (blocksOf (spM b1 b2 b3 s))) (m := (spM b1 b2 b3 s)) Tryz.func184 O Tryz.ntmps184 O hmW ?_)
 simp only [SL.enum, Nat.reduceAdd]
 refine bA fun K1 hK1 => bA fun K2 hK2 => bE (aS O (by intro _ h; cases h) O O (by first | exact al 0 O O O O (by kernel_rfl) | exact al 1 O O O O (by kernel_rfl) | exact al 2 O O O O (by kernel_rfl)) ?_)
 refine aS O (by intro _ h; cases h) O O (bf O O O Tryz.underlying9) ?_
 refine aS O (by intro _ h; cases h) O O (bt O O O) ?_
 refine bC (bi ?_)
 refine hK2 _ _ _ _ _ (SL.Ok.condIF' O ((by decide)) ?_)
 refine SL.Ok.skipI' (bi ?_)
 refine hK1 _ _ _ _ _ (bA fun K3 hK3 => ?_)
 refine SL.Ok.blockI (SL.Ok.loopR (X := (Nat × Nat × List UInt8)) (fun X => X.2.2.length ≤ X.2.1 ∧ X.2.2.length ≤ s.length ∧ X.1 ≤ (comma s).length ∧ comF X.2.1 X.2.2 = (comma s).drop X.1) (fun X => [(0, .func (.yield lr) #[] #[]), (1, .pointer (some ⟨b1, 0, none⟩)), (2, .pointer (some ⟨b2, 0, none⟩)), (3, .pointer (some ⟨b3, 0, none⟩))]) (fun X => spM b1 b2 b3 X.2.2) (fun X w => J X.1 w ∧ Glob w) (fun X => X.2.2.length) ?_ ?_)
 ·
  exact fun a w st => ⟨(0, s.length, s), ⟨Nat.le_refl _, Nat.le_refl _, Nat.zero_le _, rfl⟩, st.has.sub ⟨rfl, rfl, rfl, rfl, trivial⟩, st.mem.own, hJ 0 W w h0 st.keeps, hGW.keepM st.keeps (hno6 s)⟩
 ·
  intro ⟨i, k, t⟩ ⟨htk, hts, hi, hcm⟩ wS hMS hJS
  try dsimp only
  dsimp only at htk hts hi hcm hJS
  obtain ⟨hJS, hGS⟩ := hJS
  have hno6t : ∀ r ∈ spM b1 b2 b3 t, ∀ k, r.block = some k → 6 ≤ k := hno6 t
  refine SL.Ok.blockI (bA fun K4 hK4 => ?_)
  refine bE (aS O (by intro _ h; cases h) O O (by first | exact al 0 O O O O (by kernel_rfl) | exact al 1 O O O O (by kernel_rfl) | exact al 2 O O O O (by kernel_rfl)) ?_)
  refine aS O (by intro _ h; cases h) O O (by first | exact al 0 O O O O (by kernel_rfl) | exact al 1 O O O O (by kernel_rfl) | exact al 2 O O O O (by kernel_rfl)) ?_
  refine bP O (co O O (by kernel_rfl) O) (fun _ => (aN O O (by kernel_rfl) O O (fun w hM hK => index_c t [44] (by omega) w (hGS.keepM hK hno6t)))) ?_
  intro _ _
  try simp only [setN, putD, selM, nth, cw, cx]
  refine aS O (by intro _ h; cases h) O O (ak O O) ?_
  refine bC (bi ?_)
  refine hK4 _ _ _ _ _ (bA fun K5 hK5 => ?_)
  refine bA fun K6 hK6 => bE (aS O (by intro _ h; cases h) O O (af O O) ?_)
  refine aS O (by intro _ h; cases h) O O (aT O O O) ?_
  refine bC (bi ?_)
  refine hK6 _ _ _ _ _ (SL.Ok.condI O (fun hc33 => ?_) (fun hc33 => ?_))
  ·
   have hneg : ¬ 0 ≤ Lib.index t [44] := by simp at hc33; omega
   rw [comF_last hneg] at hcm
   have hxi : (comma s)[i]? = some t := by
    have := congrArg (·[0]?) hcm
    simp only [List.getElem?_cons_zero, List.getElem?_drop, Nat.add_zero] at this
    exact this.symm
   have hlen : i + 1 = ((comma s).map str1).length := by
    have := congrArg List.length hcm
    simp at this ⊢; omega
   refine SL.Ok.exitI (SL.Ok.exThenI ?_)
   refine SL.Ok.exOtherI O (SL.Ok.exThenI ?_)
   refine SL.Ok.exHereI (bi ?_)
   refine hK3 _ _ _ _ _ (bE ?_)
   refine aS O (by intro _ h; cases h) O O (af O O) ?_
   refine aS O (by intro _ h; cases h) O O (by first | exact al 0 O O O O (by kernel_rfl) | exact al 1 O O O O (by kernel_rfl) | exact al 2 O O O O (by kernel_rfl)) ?_
   refine SL.Ok.yieldI (G := fun v w' => ∃ b : Bool, v = .bool b ∧ (b = true → J (i + 1) w') ∧ (b = false → Jx w') ∧ Mem (blocksOf (spM b1 b2 b3 t)) w' (spM b1 b2 b3 t) w') (W2 := blocksOf (spM b1 b2 b3 t)) (m2 := spM b1 b2 b3 t) O O O O O O (fun w' hM hK => ?_) (fun v w' ⟨b, _, _, _, h⟩ => h) ?_
   ·
    refine (hY i _ w' (by rw [List.getElem?_map, hxi]; rfl) (hJ i _ _ hJS (hK.mono (spB b1 b2 b3 t s)))).mono ?_
    rintro e W' (⟨rfl, hj, hk⟩ | ⟨rfl, hj, hk⟩)
    ·
     exact ⟨_, rfl, true, rfl, fun _ => hj, (fun h => by cases h), hM.afterYield (fun k h => .inl (spB b1 b2 b3 t s k h)) hk⟩
    ·
     exact ⟨_, rfl, false, rfl, (fun h => by cases h), fun _ => hj, hM.afterYield (fun k h => .inl (spB b1 b2 b3 t s k h)) hk⟩
   rintro v wY ⟨b, rfl, hbT, hbF, hmY⟩
   refine bC (SL.Ok.finI0 (fun _ _ h => h) (ar O .nil O) (fun w' hM' hK' => ?_))
   refine ⟨⟨_, rfl⟩, ?_⟩
   cases b with
   | false => exact .inr (hJx _ _ (hbF rfl) (hK'.mono (spB b1 b2 b3 t s)))
   | true => exact .inl (hlen ▸ hJ _ _ _ (hbT rfl) (hK'.mono (spB b1 b2 b3 t s)))
  ·
   have hpos : 0 ≤ Lib.index t [44] := by simp at hc33; omega
   have hroom := Lib.index_room t [44] hpos
   have hlt1 : ([44] : List UInt8).length = 1 := rfl
   rw [hlt1] at hroom
   obtain ⟨k, rfl⟩ : ∃ k', k = k' + 1 := ⟨k - 1, by omega⟩
   rw [comF, if_pos hpos] at hcm
   have hxi : (comma s)[i]? = some (t.take (Lib.index t [44]).toNat) := by
    have := congrArg (·[0]?) hcm
    simp only [List.getElem?_cons_zero, List.getElem?_drop, Nat.add_zero] at this
    exact this.symm
   have hcm' : comF k (t.drop ((Lib.index t [44]).toNat + 1)) = (comma s).drop (i + 1) := by
    have := congrArg List.tail hcm
    simpa [List.drop_drop, Nat.add_comm] using this
   have hil : i < (comma s).length := (List.getElem?_eq_some_iff.1 hxi).1
   refine SL.Ok.skipI' (bi ?_)
   refine hK5 _ _ _ _ _ (bA fun K7 hK7 => ?_)
   refine bE (aS O (by intro _ h; cases h) O O (by first | exact al 0 O O O O (by kernel_rfl) | exact al 1 O O O O (by kernel_rfl) | exact al 2 O O O O (by kernel_rfl)) ?_)
   refine aS O (by intro _ h; cases h) O O (af O O) ?_
   refine aS O (by intro _ h; cases h) O O (by first | exact al 0 O O O O (by kernel_rfl) | exact al 1 O O O O (by kernel_rfl) | exact al 2 O O O O (by kernel_rfl)) ?_
   refine aS O (by intro _ h; cases h) O O (aL (r := Lib.index t [44]) O O O (by simp) (by omega) (by omega)) ?_
   refine aS O (by intro _ h; cases h) O O (SL.Pure.sliceSTo (r := t.take (Lib.index t [44]).toNat) O O Tryz.underlying9 O O (by omega) (by omega) (by omega) (by simp)) ?_
   refine aS O (by intro _ h; cases h) O O (ak O O) ?_
   refine bC (bi ?_)
   refine hK7 _ _ _ _ _ (bA fun K8 hK8 => ?_)
   refine bA fun K9 hK9 => bE (aS O (by intro _ h; cases h) O O (af O O) ?_)
   refine aS O (by intro _ h; cases h) O O (af O O) ?_
   refine SL.Ok.yieldI (G := fun v w' => ∃ b : Bool, v = .bool b ∧ (b = true → J (i + 1) w') ∧ (b = false → Jx w') ∧ Mem (blocksOf (spM b1 b2 b3 t)) w' (spM b1 b2 b3 t) w' ∧ Glob w') (W2 := blocksOf (spM b1 b2 b3 t)) (m2 := spM b1 b2 b3 t) O O O O O O (fun w' hM hK => ?_) (fun v w' ⟨b, _, _, _, h, _⟩ => h) ?_
   ·
    refine (hY i _ w' (by rw [List.getElem?_map, hxi]; rfl) (hJ i _ _ hJS (hK.mono (spB b1 b2 b3 t s)))).mono ?_
    have hGw := hGS.keepM hK hno6t
    rintro e W' (⟨rfl, hj, hk⟩ | ⟨rfl, hj, hk⟩)
    ·
     exact ⟨_, rfl, true, rfl, fun _ => hj, (fun h => by cases h), hM.afterYield (fun k h => .inl (spB b1 b2 b3 t s k h)) hk, hGw.keepS hk hGB⟩
    ·
     exact ⟨_, rfl, false, rfl, (fun h => by cases h), fun _ => hj, hM.afterYield (fun k h => .inl (spB b1 b2 b3 t s k h)) hk, hGw.keepS hk hGB⟩
   rintro v wY ⟨b, rfl, hbT, hbF, hmY, hGY⟩
   refine aS O (by intro _ h; cases h) O O (bM O O) ?_
   refine bC (bi ?_)
   refine hK9 _ _ _ _ _ (SL.Ok.condI O (fun hc42 => ?_) (fun hc42 => ?_))
   ·
    have hb0 : b = false := by simpa using hc42
    refine SL.Ok.retI0 (aB (aP (aB (aP (aB av))))) (ar O .nil O) (fun w' hM' hK' => ?_)
    exact ⟨⟨_, rfl⟩, .inr (hJx _ _ (hbF hb0) (hK'.mono (spB b1 b2 b3 t s)))⟩
   ·
    have hb1 : b = true := by simpa using hc42
    refine SL.Ok.skipI' (bi ?_)
    refine hK8 _ _ _ _ _ (bE ?_)
    refine aS O (by intro _ h; cases h) O O (by first | exact al 0 O O O O (by kernel_rfl) | exact al 1 O O O O (by kernel_rfl) | exact al 2 O O O O (by kernel_rfl)) ?_
    refine aS O (by intro _ h; cases h) O O (af O O) ?_
    refine aS O (by intro _ h; cases h) O O (by first | exact al 0 O O O O (by kernel_rfl) | exact al 1 O O O O (by kernel_rfl) | exact al 2 O O O O (by kernel_rfl)) ?_
    refine aS O (by intro _ h; cases h) O O (bf O O O Tryz.underlying9) ?_
    refine aS O (by intro _ h; cases h) O O (aL O O O O (by omega) (by omega)) ?_
    refine aS O (by intro _ h; cases h) O O (SL.Pure.sliceSTo (r := t.drop ((Lib.index t [44]).toNat + 1)) O O Tryz.underlying9 O O (by show 0 ≤ Lib.index t [44] + ((1 : Nat) : Int); omega) (by show Lib.index t [44] + ((1 : Nat) : Int) ≤ _; omega) (by omega) (by show ((t.take (Int.toNat (t.length : Int))).drop (Lib.index t [44] + ((1 : Nat) : Int)).toNat) = _; rw [Int.toNat_natCast, List.take_length]; congr 1; omega)) ?_
    refine bP O (SL.ND.store O) (fun _ => (by first | exact ap (k := 1) 0 [SL.Seg.one _ rfl] O O O O O O (by kernel_rfl) O O | exact ap (k := 1) 1 [SL.Seg.one _ rfl] O O O O O O (by kernel_rfl) O O | exact ap (k := 1) 2 [SL.Seg.one _ rfl] O O O O O O (by kernel_rfl) O O)) ?_
    intro _ _
    try simp only [setN, putD, selM, nth, cw, cx]
    refine bC (SL.Ok.normBlockI ?_)
    refine bi ?_
    exact SL.Ok.roundR (i + 1, k, t.drop ((Lib.index t [44]).toNat + 1)) [0, 1, 2] ⟨show (t.drop ((Lib.index t [44]).toNat + 1)).length ≤ k by rw [List.length_drop]; omega, show (t.drop ((Lib.index t [44]).toNat + 1)).length ≤ s.length by rw [List.length_drop]; omega, hil, hcm'⟩ (show (t.drop ((Lib.index t [44]).toNat + 1)).length < t.length by rw [List.length_drop]; omega) ⟨rfl, rfl, rfl, rfl, trivial⟩ O O (fun w' hM hK => ⟨hJ (i + 1) _ _ (hbT hb1) (hK.mono (spB b1 b2 b3 t s)), hGY.keepM hK hno6t⟩)
end Go.Proofs.YthfhhkanpnemcaaGreatDoor
namespace Go.Proofs.YthfhhkanpnemcaaGreatDoor
open Go.SL Go.RowKit IntWalk
set_option linter.unusedVariables false
set_option maxRecDepth 100000
set_option linter.unusedSimpArgs false
set_option maxHeartbeats 400000

theorem splitSeq0_c (s : List UInt8) (w : World) (hG : Glob w) : Calls Tryz.prog 179 [str s, str [44], .int .i64 0].toArray w fun e w' => ∃ x : Nat × Nat × Nat, (6 ≤ x.1 ∧ 6 ≤ x.2.1 ∧ 6 ≤ x.2.2) ∧ e = .returned (.func (.func 184) #[] [.pointer (some ⟨x.1, 0, none⟩), .pointer (some ⟨x.2.1, 0, none⟩), .pointer (some ⟨x.2.2, 0, none⟩)].toArray) ∧ Post w (blocksOf []) (spM x.1 x.2.1 x.2.2 s) w' := by
 refine aJ (n := 8) (W := (blocksOf [])) (m := []) Tryz.func179 O Tryz.ntmps179 O (aO _ _ _) ?_
 simp only [SL.enum, Nat.reduceAdd]
 refine ah fun K1 hK1 => aj (am O (bh [SL.Seg.one _ rfl] O O O O O) ?_)
 intro b3 _
 try simp only [setN, putD, selM, nth, cw, cx]
 refine am O (bh [SL.Seg.one _ rfl] O O O O O) ?_
 intro b4 _
 try simp only [setN, putD, selM, nth, cw, cx]
 refine am O (bh [SL.Seg.one _ rfl] O O O O O) ?_
 intro b5 _
 try simp only [setN, putD, selM, nth, cw, cx]
 refine aa O O O (ak O O) (ai ?_)
 refine ae (hK1 _ _ ?_)
 refine ah fun K2 hK2 => aj (aa O O O (SL.Pure.makeFuncC O O) ?_)
 refine aa O O O (ak O O) (ai ?_)
 refine ae (hK2 _ _ ?_)
 refine aw av (ar O (.cons (.tmp O) .nil) O) (fun w' hM' hK' => ?_)
 have h6 : ∀ k, (w.heap.size ≤ k ∨ blocksOf [] k) → 6 ≤ k := fun k h => by
  rcases h with h | ⟨r, hr, _⟩
  ·
   exact Nat.le_trans hG.size h
  ·
   cases hr
 exact ⟨(b4, b3, b5), ⟨h6 _ (hM'.may (.blk b4 (strO [44])) (by simp) b4 O), h6 _ (hM'.may (.blk b3 (strO s)) (by simp) b3 O), h6 _ (hM'.may (.blk b5 (intO 0)) (by simp) b5 O)⟩, rfl, hK', hM'.sel [1, 2, 0] rfl⟩
theorem splitSeq_c (s : List UInt8) (w : World) (hG : Glob w) : Calls Tryz.prog 163 [str s, str [44]].toArray w fun e w' => ∃ x : Nat × Nat × Nat, (6 ≤ x.1 ∧ 6 ≤ x.2.1 ∧ 6 ≤ x.2.2) ∧ e = .returned (.func (.func 184) #[] [.pointer (some ⟨x.1, 0, none⟩), .pointer (some ⟨x.2.1, 0, none⟩), .pointer (some ⟨x.2.2, 0, none⟩)].toArray) ∧ Post w (blocksOf []) (spM x.1 x.2.1 x.2.2 s) w' := by
 refine aJ (n := 8) (W := (blocksOf [])) (m := []) Tryz.func163 O Tryz.ntmps163 O (aO _ _ _) ?_
 simp only [SL.enum, Nat.reduceAdd]
 refine ah fun K1 hK1 => aj (aa O O O (ak O O) ?_)
 refine ai (ae ?_)
 refine hK1 _ _ (ah fun K2 hK2 => ?_)
 refine aj (aa O O O (af O O) ?_)
 refine aa O O O (af O O) (am O (aM [] [] O O (by kernel_rfl) O O O O (fun w hM hK => splitSeq0_c s w (hG.keep (k0 hK)))) ?_)
 intro ⟨c1, c2, c3⟩ hc
 try simp only [setN, putD, selM, nth, cw, cx]
 refine aa O O O (ak O O) (ai ?_)
 refine ae (hK2 _ _ ?_)
 refine aw av (ar O (.cons (.tmp O) .nil) O) (fun w' hM' hK' => ?_)
 exact ⟨(c1, c2, c3), hc, rfl, hK', hM'.sel [0, 1, 2] rfl⟩

def modsR (r : Rd) (ps : List (List UInt8)) : Rd := ps.foldl (fun r p => wantM r (auE p == 0) 3) r
theorem modsR_step (r : Rd) (ps : List (List UInt8)) {i : Nat} (h : i < ps.length) : modsR r (ps.take (i + 1)) = wantM (modsR r (ps.take i)) (auE ps[i] == 0) 3 := by
 rw [List.take_succ_eq_append_getElem h, modsR, List.foldl_append]; rfl
theorem modsR_at (r : Rd) (ps : List (List UInt8)) : (modsR r ps).at_ = r.at_ := by
 induction ps generalizing r with
 | nil => rfl
 | cons p t ih => show (modsR (wantM r _ _) t).at_ = _; rw [ih, wantM_at]
def modR (s : List UInt8) (r : Rd) : Rd := wantM (modsR (wordR s r) (comma (wordW s r))) (modE ((comma (wordW s r)).map auV) == 0) (modE ((comma (wordW s r)).map auV))
theorem comF_len : ∀ (k : Nat) (s : List UInt8), (comF k s).length ≤ k + 1
 | 0, s => by simp [comF]
 | k + 1, s => by
  rw [comF]
  split
  ·
   have := comF_len k (s.drop ((Lib.index s [44]).toNat + 1)); simp; omega
  ·
   simp
theorem comma_len (s : List UInt8) : (comma s).length ≤ s.length + 1 := comF_len _ _
theorem ids_take (xs : List (List UInt8)) {i : Nat} (h : i < xs.length) : idsV ((xs.take i).map auV) ++ (flat [(auV xs[i]).seg]).toList = idsV ((xs.take (i + 1)).map auV) := by
 rw [List.take_succ_eq_append_getElem h, List.map_append, idsV_append]; simp [idsV]

def fst1s : List Value → Value
 | [v] => v
 | _ => undef
abbrev TAus : TypeId := 118
abbrev TRdp : TypeId := 139
abbrev TAu : TypeId := 33
abbrev auM (b b1 b4 : Nat) (s : List UInt8) (r : Rd) (xs : List (B 16)) (n : Nat) (a : Option Addr) (c : Nat) : List Res := [.row (.slice a n c) TAu 16 n (idsV xs), .blk b4 (.cells (flat [Seg.one (.slice a n c) rfl]) TAus (0, 0)), .blk b (rdO s r), .blk b1 (.cells (flat [Seg.one (.pointer (some ⟨b, 0, none⟩)) rfl]) TRdp (0, 0))]

theorem moderators_c (b : Nat) (s : List UInt8) (r : Rd) (hs : s.length ≤ 100000) (hr : r.at_ ≤ s.length) (hb : 6 ≤ b) (w : World) (hG : Glob w) (hm : Mem (blocksOf [.blk b (rdO s r)]) w [.blk b (rdO s r)] w) :
  Calls Tryz.prog 143 [.pointer (some ⟨b, 0, none⟩)].toArray w fun q w' => ∃ x : Option Addr × Nat × Nat, True ∧ q = .returned (.slice x.1 x.2.1 x.2.2) ∧ Post w (blocksOf [.blk b (rdO s r)]) [.blk b (rdO s (modR s r))] w' := by
 have hwl := wordW_len s r
 generalize hw0 : wordW s r = v at *
 have hdef : modR s r = wantM (modsR (wordR s r) (comma v)) (modE ((comma v).map auV) == 0) (modE ((comma v).map auV)) := by rw [modR, hw0]
 have hcl := comma_len v
 refine SL.calls_okM (n := 37) (W := (blocksOf [.blk b (rdO s r)])) (m := [.blk b (rdO s r)]) Tryz.func143 O Tryz.ntmps143 O hm ?_
 simp only [SL.enum, Nat.reduceAdd]
 refine bA fun K1 hK1 => bE (bP O (SL.ND.box O) (fun _ => (bh [SL.Seg.one (.pointer (some ⟨b, 0, none⟩)) rfl] O O O O O)) ?_)
 intro b1 _
 try simp only [setN, putD, selM, nth, cw, cx]
 refine aS O (by intro _ h; cases h) O O (ak O O) ?_
 refine bC (bi ?_)
 refine hK1 _ _ _ _ _ (bA fun K2 hK2 => ?_)
 refine bE (aS O (by intro _ h; cases h) O O (by first | exact al 0 O O O O (by kernel_rfl) | exact al 1 O O O O (by kernel_rfl)) ?_)
 refine bP O (co O O (by kernel_rfl) O) (fun _ => (aM [1] [0] O O (by kernel_rfl) O O O O (fun w hM hK => (by have h := word_c b s r hs hr hb w (hG.keep1 hK hb) (hM.sel [1] O).own; rw [hw0] at h; exact h)))) ?_
 intro _ _
 try simp only [setN, putD, selM, nth, cw, cx]
 refine aS O (by intro _ h; cases h) O O (ak O O) ?_
 refine bC (bi ?_)
 refine hK2 _ _ _ _ _ (bA fun K3 hK3 => ?_)
 refine bE (bP O (SL.ND.alloc O) (fun _ => (aX [Seg.one (.slice none 0 0) rfl] O O O (by kernel_rfl))) ?_)
 intro b4 _
 try simp only [setN, putD, selM, nth, cw, cx]
 refine bC (SL.Ok.nilRow TAu 16 ?_)
 refine bi (hK3 _ _ _ _ _ ?_)
 refine bA fun K4 hK4 => bA fun K5 hK5 => bE (aS O (by intro _ h; cases h) O O (af O O) ?_)
 refine bP O (co O O (by kernel_rfl) O) (fun _ => (aM [] [0, 1, 2, 3] O O (by kernel_rfl) O O O O (fun w hM hK => splitSeq_c v w (hG.keep1 hK hb)))) ?_
 intro ⟨c1, c2, c3⟩ hc
 try simp only [setN, putD, selM, nth, cw, cx]
 dsimp only at hc
 refine bC (bi ?_)
 refine hK5 _ _ _ _ _ (SL.Ok.blockI ?_)
 refine SL.Ok.rangeFuncF (ps := [14]) (xs := ((comma v).map str1)) (X := (Rd × List (B 16) × Nat × Option Addr × Nat)) (Y := Unit) [3, 4, 5, 6] [0, 1, 2] [] O (by kernel_rfl) O O O O (fun k => k < 6) (fun k hk => ⟨Nat.lt_of_lt_of_le hk hG.size, fun ⟨r, hr, hrk⟩ => by simp only [List.mem_singleton] at hr; subst hr; simp only [Res.block, Option.some.injEq] at hrk; omega⟩) (fun w hM hK => comma_iter v (by omega) c1 c2 c3 hc w (hG.keep1 hK hb) (hM.sel [0, 1, 2] O)) (fun x hx => by obtain ⟨p, _, rfl⟩ := List.mem_map.1 hx; rfl) O (fun i z => z.1 = modsR (wordR s r) ((comma v).take i) ∧ z.2.1 = ((comma v).take i).map auV ∧ z.2.2.1 = i) (fun z => auM b b1 b4 s z.1 z.2.1 z.2.2.1 z.2.2.2.1 z.2.2.2.2) (wordR s r, [], 0, none, 0) ⟨rfl, rfl, rfl⟩ O (fun _ => False) (fun _ => []) (fun x => [(5, fst1s x), (1, .pointer (some ⟨b1, 0, none⟩)), (4, .pointer (some ⟨b4, 0, none⟩))]) ?_ ?_ ?_ ?_
 ·
  intro lr x hx w K hK
  obtain ⟨p, _, rfl⟩ := List.mem_map.1 hx
  refine bE (aS O (by intro _ h; cases h) O O (ak O O) ?_)
  refine bC (bi ?_)
  exact bI hK [] ⟨rfl, rfl, rfl, trivial⟩ O rfl
 ·
  intro lr i x z hx hz wS hK0 hMS
  obtain ⟨p, hp, rfl⟩ : ∃ p, (comma v)[i]? = some p ∧ str1 p = x := by
   rw [List.getElem?_map] at hx
   cases h : (comma v)[i]? with
   | none => rw [h] at hx; cases hx
   | some p => rw [h] at hx; exact ⟨p, rfl, Option.some.inj hx⟩
  obtain ⟨z1, z2, n, ga, gc⟩ := z
  obtain ⟨hz1, hz2, hz3⟩ := hz
  dsimp only at hz1 hz2 hz3
  subst hz1 hz2 hz3
  have hil : n < (comma v).length := (List.getElem?_eq_some_iff.1 hp).1
  have hpe : p = (comma v)[n] := ((List.getElem?_eq_some_iff.1 hp).2).symm
  subst hpe
  dsimp only [fst1s, str1, auM]
  refine SL.Ok.blockI (bA fun K6 hK6 => ?_)
  refine bE (aS O (by intro _ h; cases h) O O (af O O) ?_)
  refine bP O (co O O (by kernel_rfl) O) (fun _ => (aM [] [0, 1, 2, 3] O O (by kernel_rfl) O O O O (fun w hM hK => parseAuthor_c (comma v)[n] w))) ?_
  intro z17 _
  try simp only [setN, putD, selM, nth, cw, cx]
  refine aS O (by intro _ h; cases h) O O (af O O) ?_
  refine aS O (by intro _ h; cases h) O O (aW O O O) ?_
  refine aS O (by intro _ h; cases h) O O (aW O O O) ?_
  refine aS O (by intro _ h; cases h) O O (aW O O O) ?_
  refine bP O (SL.ND.alloc O) (fun _ => (aX [(B.zero 16).seg] O O O (by kernel_rfl))) ?_
  intro b6 _
  try simp only [setN, putD, selM, nth, cw, cx]
  refine bP O (SL.ND.store O) (fun _ => (by first | exact ap (k := 16) 0 _ O O O O O O (by kernel_rfl) O O | exact ap (k := 16) 1 _ O O O O O O (by kernel_rfl) O O | exact ap (k := 16) 2 _ O O O O O O (by kernel_rfl) O O | exact ap (k := 16) 3 _ O O O O O O (by kernel_rfl) O O | exact ap (k := 16) 4 _ O O O O O O (by kernel_rfl) O O)) ?_
  intro _ _
  try simp only [setN, putD, selM, nth, cw, cx]
  refine aS O (by intro _ h; cases h) O O (ak O O) ?_
  refine aS O (by intro _ h; cases h) O O (ak O O) ?_
  refine bC (bi ?_)
  refine hK6 _ _ _ _ _ (bA fun K7 hK7 => ?_)
  refine bE (aS O (by intro _ h; cases h) O O (by first | exact al 0 O O O O (by kernel_rfl) | exact al 1 O O O O (by kernel_rfl) | exact al 2 O O O O (by kernel_rfl) | exact al 3 O O O O (by kernel_rfl) | exact al 4 O O O O (by kernel_rfl)) ?_)
  refine aS O (by intro _ h; cases h) O O (af O O) ?_
  refine aS O (by intro _ h; cases h) O O (bt O O O) ?_
  refine bP O (co O O (by kernel_rfl) O) (fun _ => (aM [3] [0, 1, 2, 4] O O (by kernel_rfl) O O O O (fun w hM hK => want_c b s (modsR (wordR s r) ((comma v).take n)) (auE (comma v)[n] == 0) 3 w (hM.sel [3] O).own))) ?_
  intro _ _
  try simp only [setN, putD, selM, nth, cw, cx]
  refine bC (bi ?_)
  refine hK7 _ _ _ _ _ (bE ?_)
  refine aS O (by intro _ h; cases h) O O (by first | exact al 0 O O O O (by kernel_rfl) | exact al 1 O O O O (by kernel_rfl) | exact al 2 O O O O (by kernel_rfl) | exact al 3 O O O O (by kernel_rfl) | exact al 4 O O O O (by kernel_rfl)) ?_
  refine aS O (by intro _ h; cases h) O O (by first | exact ay 0 (k := 16) O O O (by kernel_rfl) O (by kernel_rfl) | exact ay 1 (k := 16) O O O (by kernel_rfl) O (by kernel_rfl) | exact ay 2 (k := 16) O O O (by kernel_rfl) O (by kernel_rfl) | exact ay 3 (k := 16) O O O (by kernel_rfl) O (by kernel_rfl) | exact ay 4 (k := 16) O O O (by kernel_rfl) O (by kernel_rfl)) ?_
  refine bP O (SL.ND.buildSlice O) (fun _ => (SL.Eff.buildSlice1A (d := 27) (sz := 16) (q := [(auV (comma v)[n]).seg]) (zs := [(B.zero 16).seg]) O O O O Tryz.underlying118 (by kernel_rfl) (by kernel_rfl) O (by decide) (by decide) O O)) ?_
  intro g27 _
  try simp only [setN, putD, selM, nth, cw, cx]
  refine bP O (SL.ND.append O) (fun _ => (bF (d := 28) (by' := 16) 3 [1, 2, 4, 5] O O O O Tryz.underlying118 Tryz.underlying118 (by kernel_rfl) (fun w' hM _ => bK (i := 0) O hM) (fun u hu => flat_one _ u hu) O O O O (by omega) (by omega))) ?_
  intro v28 hv28
  try simp only [setN, putD, selM, nth, cw, cx]
  have hta := ids_take (comma v) hil
  simp only [hta]
  refine SL.Ok.rowSlice 0 O ?_
  rintro ⟨a', c', rfl, hc'⟩
  refine bP O (SL.ND.store O) (fun _ => (by first | exact ap (k := 1) 0 [SL.Seg.one _ rfl] O O O O O O (by kernel_rfl) O O | exact ap (k := 1) 1 [SL.Seg.one _ rfl] O O O O O O (by kernel_rfl) O O | exact ap (k := 1) 2 [SL.Seg.one _ rfl] O O O O O O (by kernel_rfl) O O | exact ap (k := 1) 3 [SL.Seg.one _ rfl] O O O O O O (by kernel_rfl) O O | exact ap (k := 1) 4 [SL.Seg.one _ rfl] O O O O O O (by kernel_rfl) O O)) ?_
  intro _ _
  try simp only [setN, putD, selM, nth, cw, cx]
  refine bC (SL.Ok.normBlockI ?_)
  exact SL.Ok.rndGo (wantM (modsR (wordR s r) ((comma v).take n)) (auE (comma v)[n] == 0) 3, ((comma v).take (n + 1)).map auV, n + 1, a', c') [0, 3, 1, 4] ⟨(modsR_step _ _ hil).symm, rfl, rfl⟩ O rfl
 ·
  intro D z hz
  try dsimp only
  simp only [SL.selM, SL.nth, List.cons_append, List.nil_append, List.append_nil]
  obtain ⟨z1, z2, n, ga, gc⟩ := z
  obtain ⟨hz1, hz2, hz3⟩ := hz
  dsimp only at hz1 hz2 hz3
  rw [List.length_map, List.take_length] at hz1 hz2
  subst hz1 hz2
  refine SL.Ok.rowSlice 1 O ?_
  rintro ⟨a', c', hsl, hcc⟩
  simp only [Value.slice.injEq, true_and] at hsl
  obtain ⟨rfl, rfl⟩ := hsl
  refine SL.Ok.normBlockI (bi ?_)
  refine hK4 _ _ _ _ _ (bA fun K8 hK8 => ?_)
  refine bE (aS O (by intro _ h; cases h) O O (by first | exact al 0 O O O O (by kernel_rfl) | exact al 1 O O O O (by kernel_rfl) | exact al 2 O O O O (by kernel_rfl) | exact al 3 O O O O (by kernel_rfl) | exact al 4 O O O O (by kernel_rfl)) ?_)
  refine bP O (co O O (by kernel_rfl) O) (fun _ => (aN O O (by kernel_rfl) O O (fun w hM hK => checkModerators_c ((comma v).map auV) _ n _ hcc w (bK (i := 1) O hM)))) ?_
  intro _ _
  try simp only [setN, putD, selM, nth, cw, cx]
  refine aS O (by intro _ h; cases h) O O (ak O O) ?_
  refine bC (bi ?_)
  refine hK8 _ _ _ _ _ (bA fun K9 hK9 => ?_)
  refine bE (aS O (by intro _ h; cases h) O O (by first | exact al 0 O O O O (by kernel_rfl) | exact al 1 O O O O (by kernel_rfl) | exact al 2 O O O O (by kernel_rfl) | exact al 3 O O O O (by kernel_rfl) | exact al 4 O O O O (by kernel_rfl)) ?_)
  refine aS O (by intro _ h; cases h) O O (af O O) ?_
  refine aS O (by intro _ h; cases h) O O (bt O O O) ?_
  refine aS O (by intro _ h; cases h) O O (af O O) ?_
  refine bP O (co O O (by kernel_rfl) O) (fun _ => (aM [3] [0, 1, 2, 4] O O (by kernel_rfl) O O O O (fun w hM hK => want_c b s (modsR (wordR s r) (comma v)) (modE ((comma v).map auV) == 0) (modE ((comma v).map auV)) w (hM.sel [3] O).own))) ?_
  intro _ _
  try simp only [setN, putD, selM, nth, cw, cx]
  refine bC (bi ?_)
  refine hK9 _ _ _ _ _ (bA fun K10 hK10 => ?_)
  refine bE (aS O (by intro _ h; cases h) O O (by first | exact al 0 O O O O (by kernel_rfl) | exact al 1 O O O O (by kernel_rfl) | exact al 2 O O O O (by kernel_rfl) | exact al 3 O O O O (by kernel_rfl) | exact al 4 O O O O (by kernel_rfl)) ?_)
  refine aS O (by intro _ h; cases h) O O (ak O O) ?_
  refine bC (bi ?_)
  refine hK10 _ _ _ _ _ (SL.Ok.retDI 1 O av (ar O (.cons (.tmp O) .nil) O) (fun w' hM' hK' => ?_))
  exact ⟨(_, n, _), trivial, rfl, hK', by rw [hdef]; exact hM'.sel [0] rfl⟩
 ·
  intro D y hy
  try dsimp only
  simp only [SL.selM, SL.nth, List.cons_append, List.nil_append, List.append_nil]
  exact hy.elim -- !done
end Go.Proofs.YthfhhkanpnemcaaGreatDoor
namespace Go.SL
theorem findM_mem {α β : Type} [DecidableEq α] : ∀ (kv : List (α × β)) (a : α) (i : Nat) (p : Nat × β), findM kv a i = some p → (a, p.2) ∈ kv
 | [], a, i, p, h => by cases h
 | q :: r, a, i, p, h => by
  rw [findM] at h
  split at h
  ·
   rename_i he
   simp only [Option.some.injEq] at h
   subst h he
   exact List.mem_cons_self
  ·
   exact List.mem_cons_of_mem _ (findM_mem r a (i + 1) p h)
end Go.SL
namespace Go.Proofs.YthfhhkanpnemcaaGreatDoor
open Go.SL Go.RowKit IntWalk
set_option linter.unusedVariables false
set_option maxRecDepth 100000
set_option linter.unusedSimpArgs false
set_option maxHeartbeats 400000

def vkv (k : Nat) : List (UInt8 × Nat) := (List.range k).map fun v => (a64 v, v)
abbrev u8F : UInt8 → Value := fun x => Value.int .u8 x.toNat
abbrev intF : Nat → Value := fun v => Value.int .i64 v
abbrev valO (k : Nat) : Obj := mapO u8F intF (vkv k)
theorem vkv_new : ∀ v, v < 64 → findM (vkv v) (a64 v) 0 = none := by decide
theorem vkv_step (k : Nat) : vkv k ++ [(a64 k, k)] = vkv (k + 1) := by simp [vkv, List.range_succ]
def dval (c : UInt8) : Option Nat := (findM (vkv 64) c 0).map (·.2)
theorem dval_lt {c : UInt8} {x : Nat} (h : dval c = some x) : x < 64 := by
 unfold dval at h
 cases hf : findM (vkv 64) c 0 with
 | none => rw [hf] at h; cases h
 | some p =>
  rw [hf] at h
  have := findM_mem _ _ _ _ hf
  simp only [Option.map_some, Option.some.injEq] at h
  subst h
  simp only [vkv, List.mem_map, List.mem_range, Prod.mk.injEq] at this
  obtain ⟨v, hv, _, he⟩ := this
  omega
theorem a64_at {i : Nat} (h : i < 64) : A64B.get i = a64 i := rfl

theorem values_c (w : World) : Calls Tryz.prog 187 (#[] : Array Value) w fun e w' => ∃ b : Nat, True ∧ e = .returned (.map (some b)) ∧ Post w (blocksOf []) [.blk b (valO 64)] w' := by
 refine aJ (n := 15) (W := (blocksOf [])) (m := []) Tryz.func187 O Tryz.ntmps187 O (aO _ _ _) ?_
 simp only [SL.enum, Nat.reduceAdd]
 refine ah fun K1 hK1 => aj (aa O O O (ak O O) ?_)
 refine ai (ae ?_)
 refine hK1 _ _ (ah fun K2 hK2 => ?_)
 refine aj (am O (SL.Eff.makeMapN O O Tryz.underlying226 O O) ?_)
 intro b4 _
 try simp only [setN, putD, selM, nth, cw, cx]
 refine aa O O O (ak O O) (ai ?_)
 refine ae (hK2 _ _ ?_)
 refine ah fun K3 hK3 => ah fun K4 hK4 => aj (am O (aN O O (by kernel_rfl) O O (fun w hM hK => alphabet_c w)) ?_)
 intro _ _
 try simp only [setN, putD, selM, nth, cw, cx]
 refine aa O O O (af O O) (ai ?_)
 refine ae (hK4 _ _ ?_)
 refine aK (bu (X := Nat) (φ := fun i => i ≤ 64) (L := fun i => [(1, .map (some b4)), (5, .agg (flat [A64B.seg])), (6, .int .i64 i)]) (M := fun i => [.blk b4 (valO i)]) (μ := fun i => 64 - i) ?_ ?_)
 ·
  exact fun _ _ st => ⟨0, Nat.zero_le _, st.to [0] ⟨rfl, rfl, rfl, trivial⟩ O rfl⟩
 ·
  intro i hi
  try dsimp only
  refine ah fun K5 hK5 => aj (aa O O O (aT O O O) ?_)
  refine ai (ae ?_)
  refine hK5 _ _ (ah fun K6 hK6 => ?_)
  refine aH O (fun hc7 => ?_) (fun hc7 => ?_)
  ·
   have hlt : i < 64 := by simp at hc7; omega
   refine aC (ae ?_)
   refine hK6 _ _ (ah fun K7 hK7 => ?_)
   refine aK (ah fun K8 hK8 => ?_)
   refine aj (aa O O O (af O O) ?_)
   refine aa O O O (SL.Pure.indexA1 (v := .int .u8 (a64 i).toNat) O O O Tryz.underlying199 (by kernel_rfl) (by kernel_rfl) (by omega) (by omega) (by rw [Int.toNat_natCast]; exact cn A64B hlt)) ?_
   refine aa O O O (ak O O) (aa O O O (ak O O) ?_)
   refine ai (ae ?_)
   refine hK8 _ _ (aj ?_)
   refine aa O O O (af O O) (aa O O O (af O O) ?_)
   refine aa O O O (af O O) (am O (by exact SL.Eff.mapPut 0 (a64 i) i (SL.KeyLike.u8 Tryz.underlying5) (.inl O) O O O O Tryz.underlying226 O (vkv_new i hlt)) ?_)
   intro _ _
   try simp only [setN, putD, selM, nth, cw, cx]
   rw [vkv_step]
   refine ai (aQ ?_)
   refine ae (hK7 _ _ ?_)
   refine aj (aa O O O (aL O O O O (by omega) (by omega)) ?_)
   refine aa O O O (af O O) (ai ?_)
   refine ae ?_
   exact bd (i + 1) [0] (show i + 1 ≤ 64 by omega) (show 64 - (i + 1) < 64 - i by omega) ⟨rfl, rfl, rfl, trivial⟩ O rfl
  ·
   have hge : i = 64 := by simp at hc7; omega
   subst hge
   refine aU (aI ?_)
   refine aI (aV ?_)
   refine ae (hK3 _ _ ?_)
   refine ah fun K9 hK9 => aj (aa O O O (af O O) ?_)
   refine aa O O O (ak O O) (ai ?_)
   refine ae (hK9 _ _ ?_)
   refine aw av (ar O (.cons (.tmp O) .nil) O) (fun w' hM' hK' => ?_)
   exact ⟨b4, trivial, rfl, hK', hM'.sel [0] rfl⟩

def inPl (s : List UInt8) (i : Nat) : Bool := decide (s.length % 4 = 0) && (decide (i + 1 = s.length) || (decide (i + 2 = s.length) && decide (s.getD (s.length - 1) 0 = 61)))
theorem inPlace_c (s : List UInt8) (i : Nat) (hi : i < s.length) (hl : s.length ≤ 1000000) (w : World) : Calls Tryz.prog 188 [str s, .int .i64 i].toArray w fun e w' => e = .returned (.bool (inPl s i)) ∧ Keeps none1 w w' := by
 have hlast : s[((s.length : Int) - 1).toNat]? = some (s.getD (s.length - 1) 0) := by rw [show ((s.length : Int) - 1).toNat = s.length - 1 by omega]; exact gD (by omega)
 refine aJ (n := 29) (W := SL.none1) (m := []) Tryz.func188 O Tryz.ntmps188 O (aO _ _ _) ?_
 simp only [SL.enum, Nat.reduceAdd]
 refine ah fun K1 hK1 => aj (aa O O O (ak O O) ?_)
 refine ai (ae ?_)
 refine hK1 _ _ (ah fun K2 hK2 => ?_)
 refine ah fun K3 hK3 => aj (aa O O O (af O O) ?_)
 refine aa O O O (bf O O O Tryz.underlying9) (aa O O O (SL.Pure.remI O O O (by omega) (by omega) (by omega)) ?_)
 refine aa O O O (bl O O O) (ai ?_)
 refine ae (hK3 _ _ ?_)
 refine aH O (fun hc8 => ?_) (fun hc8 => ?_)
 ·
  have h4 : ¬ s.length % 4 = 0 := by simp at hc8; omega
  refine ah fun K4 hK4 => aj (aa O O O (ak O O) ?_)
  refine ai (ae ?_)
  refine hK4 _ _ (aw (aB av) (ar O (.cons (.tmp O) .nil) O) (fun w' hM' hK' => ?_))
  exact ⟨by rw [inPl, decide_eq_false h4]; rfl, hK'⟩
 ·
  have h4 : s.length % 4 = 0 := by simp at hc8; omega
  refine aC (ae ?_)
  refine hK2 _ _ (ah fun K5 hK5 => ?_)
  refine aj (aa O O O (af O O) ?_)
  refine aa O O O (af O O) (aa O O O (bf O O O Tryz.underlying9) ?_)
  refine aa O O O (bU O O O O (by omega) (by omega)) ?_
  refine aa O O O (bt O O O) (aa O O O (af O O) ?_)
  refine aR (d := 14) O (fun hg14 => ?_) (fun hg14 => ?_)
  ·
   have h1 : i + 1 = s.length := by simp at hg14; omega
   refine ag O O O O O O O (ag O O O O O O O ?_)
   refine ag O O O O O O O (ag O O O O O O O ?_)
   refine ag O O O O O O O (ag O O O O O O O ?_)
   refine bO O O O O O O (bO O O O O O O ?_)
   refine bO O O O O O O (bO O O O O O O ?_)
   refine bO O O O O O O (bO O O O O O O ?_)
   refine ag O O O O O O O (aa O O O (aF O O O) ?_)
   refine aa O O O (ak O O) (ai ?_)
   refine ae (hK5 _ _ ?_)
   refine aw av (ar O (.cons (.tmp O) .nil) O) (fun w' hM' hK' => ?_)
   exact ⟨by rw [inPl, decide_eq_true h4, decide_eq_true h1]; rfl, hK'⟩
  ·
   have h1 : ¬ i + 1 = s.length := by simp at hg14; omega
   refine aq O O O O O O O (af O O) (aq O O O O O O O (af O O) ?_)
   refine aq O O O O O O O (bf O O O Tryz.underlying9) (aq O O O O O O O (bU O O O O (by omega) (by omega)) ?_)
   refine aq O O O O O O O (bt O O O) (aq O O O O O O O (af O O) ?_)
   refine aR (d := 20) O (fun hg20 => ?_) (fun hg20 => ?_)
   ·
    have h2 : i + 2 = s.length := by simp at hg20; omega
    refine aq O O O O O O O (af O O) (aq O O O O O O O (af O O) ?_)
    refine aq O O O O O O O (bf O O O Tryz.underlying9) (aq O O O O O O O (bU O O O O (by omega) (by omega)) ?_)
    refine aq O O O O O O O (bQ O O O Tryz.underlying9 (by omega) hlast) ?_
    refine aq O O O O O O O (bt O O O) (aq O O O O O O O (aF O O O) ?_)
    refine aa O O O (aE O O O) (aa O O O (ak O O) ?_)
    refine ai (ae ?_)
    refine hK5 _ _ (aw av (ar O (.cons (.tmp O) .nil) O) (fun w' hM' hK' => ?_))
    refine ⟨?_, hK'⟩
    rw [inPl, decide_eq_true h4, decide_eq_false h1, decide_eq_true h2]
    exact bj (by simp only [Bool.true_and, Bool.false_or, decide_eq_true_eq]; rw [← UInt8.toNat_inj]; simp [-List.getD_eq_getElem?_getD]; omega)
   ·
    have h2 : ¬ i + 2 = s.length := by simp at hg20; omega
    refine ag O O O O O O O (ag O O O O O O O ?_)
    refine ag O O O O O O O (ag O O O O O O O ?_)
    refine ag O O O O O O O (ag O O O O O O O ?_)
    refine aq O O O O O O O (aE O O O) (aa O O O (aE O O O) ?_)
    refine aa O O O (ak O O) (ai ?_)
    refine ae (hK5 _ _ ?_)
    refine aw av (ar O (.cons (.tmp O) .nil) O) (fun w' hM' hK' => ?_)
    exact ⟨by rw [inPl, decide_eq_true h4, decide_eq_false h1, decide_eq_false h2]; rfl, hK'⟩
theorem size64_c (w : World) : Calls Tryz.prog 186 [.int .i64 131072].toArray w fun e w' => e = .returned (.int .i64 174764) ∧ Keeps none1 w w' := by
 refine aJ (n := 13) (W := SL.none1) (m := []) Tryz.func186 O Tryz.ntmps186 O (aO _ _ _) ?_
 simp only [SL.enum, Nat.reduceAdd]
 refine ah fun K1 hK1 => aj (aa O O O (ak O O) ?_)
 refine ai (ae ?_)
 refine hK1 _ _ (ah fun K2 hK2 => ?_)
 refine ah fun K3 hK3 => aj (aa O O O (af O O) ?_)
 refine aa O O O (aT O O O) (aa O O O (af O O) ?_)
 refine SL.Ok.setF (d := 5) O ((by decide)) ?_
 refine aq O O O O O O O (af O O) (aq O O O O O O O (bH O O O) ?_)
 refine aa O O O (aE O O O) (ai ?_)
 refine ae (hK3 _ _ ?_)
 refine cf O ((by decide)) ?_
 refine aC (ae ?_)
 refine hK2 _ _ (ah fun K4 hK4 => ?_)
 refine aj (aa O O O (af O O) ?_)
 refine aa O O O (aL O O O O (by omega) (by omega)) ?_
 refine aa O O O (SL.Pure.quoI O O O (by omega) (by omega) (by omega)) ?_
 refine aa O O O (ct O O O O (by omega) (by omega)) ?_
 refine aa O O O (ak O O) (ai ?_)
 refine ae (hK4 _ _ ?_)
 refine aw av (ar O (.cons (.tmp O) .nil) O) (fun w' hM' hK' => ?_)
 exact ⟨rfl, hK'⟩
end Go.Proofs.YthfhhkanpnemcaaGreatDoor
namespace Go.Proofs.YthfhhkanpnemcaaGreatDoor
open Go.SL Go.RowKit IntWalk
set_option linter.unusedVariables false
set_option maxRecDepth 100000
set_option linter.unusedSimpArgs false
set_option maxHeartbeats 400000

structure DS where
 o : List UInt8
 v : Nat
 h : Nat
 last : Nat
def dstep (st : DS) (x i : Nat) : DS := if 8 ≤ st.h + 6 then ⟨st.o ++ [UInt8.ofNat ((st.v * 2 ^ 6 + x) / 2 ^ (st.h - 2))], (st.v * 2 ^ 6 + x) % 2 ^ (st.h - 2), st.h - 2, i⟩ else ⟨st.o, st.v * 2 ^ 6 + x, st.h + 6, i⟩
def decL (s : List UInt8) : List UInt8 → Nat → DS → Option DS
 | [], _, st => some st
 | c :: r, i, st => match dval c with
  | some x => decL s r (i + 1) (dstep st x i)
  | none => if c = 61 ∧ inPl s i = true then some st else none
abbrev ds0 : DS := ⟨[], 0, 0, 0⟩
def decE (s : List UInt8) : Int := match decL s s 0 ds0 with
 | none => 6
 | some st => if s.length % 4 ≠ 0 then 4 else if st.v ≠ 0 then 3 else 0
def decO (s : List UInt8) : List UInt8 := match decL s s 0 ds0 with
 | none => []
 | some st => if s.length % 4 ≠ 0 then [] else if st.v ≠ 0 then [] else st.o
theorem decL_some {s r : List UInt8} {c : UInt8} {i x : Nat} {st : DS} (h : dval c = some x) : decL s (c :: r) i st = decL s r (i + 1) (dstep st x i) := by rw [decL, h]
theorem decL_none {s r : List UInt8} {c : UInt8} {i : Nat} {st : DS} (h : dval c = none) : decL s (c :: r) i st = if c = 61 ∧ inPl s i = true then some st else none := by rw [decL, h]
theorem look_dval (c : UInt8) : look2 intF (.int .i64 0) (findM (vkv 64) c 0) = .int .i64 (((dval c).getD 0 : Nat) : Int) := by
 unfold dval
 cases findM (vkv 64) c 0 <;> rfl
theorem some_dval (c : UInt8) : (findM (vkv 64) c 0).isSome = (dval c).isSome := by
 unfold dval
 cases findM (vkv 64) c 0 <;> rfl
theorem or6 (v c : Nat) (hv : v < 2 ^ 20) (hc : c < 64) : IntKind.i64.wrap (BitVec.ofInt IntKind.i64.bits ((v * 2 ^ 6 : Nat) : Int) ||| BitVec.ofInt IntKind.i64.bits (c : Int)).toNat = ((v * 2 ^ 6 + c : Nat) : Int) := by
 have e : (BitVec.ofInt 64 ((v * 2 ^ 6 : Nat) : Int) ||| BitVec.ofInt 64 (c : Int)).toNat = v * 2 ^ 6 + c := by
  rw [BitVec.toNat_or, BitVec.toNat_ofInt, BitVec.toNat_ofInt]
  have h1 : (((v * 2 ^ 6 : Nat) : Int) % ((2 ^ 64 : Nat) : Int)).toNat = v * 2 ^ 6 := by omega
  have h2 : ((c : Int) % ((2 ^ 64 : Nat) : Int)).toNat = c := by omega
  rw [h1, h2, Nat.mul_comm v, Nat.two_pow_add_eq_or_of_lt (show c < 2 ^ 6 from hc)]
 show IntKind.i64.wrap ((BitVec.ofInt 64 ((v * 2 ^ 6 : Nat) : Int) ||| BitVec.ofInt 64 (c : Int)).toNat : Int) = _
 rw [e, IntKind.wrap_i64]
 omega
theorem dstep_ok {st : DS} {x i : Nat} (h7 : st.h ≤ 7) (hv : st.v < 2 ^ st.h) (hx : x < 64) : (dstep st x i).h ≤ 7 ∧ (dstep st x i).v < 2 ^ (dstep st x i).h ∧ (dstep st x i).o.length ≤ st.o.length + 1 := by
 unfold dstep
 split
 ·
  exact ⟨show st.h - 2 ≤ 7 by omega, Nat.mod_lt _ (Nat.two_pow_pos _), by simp⟩
 ·
  refine ⟨show st.h + 6 ≤ 7 by omega, ?_, by simp⟩
  show st.v * 2 ^ 6 + x < 2 ^ (st.h + 6)
  rw [Nat.pow_add]
  have : (st.v + 1) * 2 ^ 6 ≤ 2 ^ st.h * 2 ^ 6 := Nat.mul_le_mul_right _ hv
  omega

theorem decode_c (s : List UInt8) (hl : s.length ≤ 100000) (w : World) : Calls Tryz.prog 182 [str s].toArray w fun e w' => ∃ x : Option Addr × Nat × Int, (decO s).length ≤ x.2.1 ∧ e = .returned (.tuple #[.slice x.1 (decO s).length x.2.1, .int .i64 x.2.2, .int .i64 (decE s)]) ∧ Post w (blocksOf []) [.row (.slice x.1 (decO s).length x.2.1) 5 1 (decO s).length (bytesV (decO s))] w' := by
 refine aJ (n := 77) (W := (blocksOf [])) (m := []) Tryz.func182 O Tryz.ntmps182 O (aO _ _ _) ?_
 simp only [SL.enum, Nat.reduceAdd]
 refine ah fun K1 hK1 => aj (aa O O O (ak O O) ?_)
 refine aa O O O (ak O O) (aa O O O (ak O O) ?_)
 refine ai (ae ?_)
 refine hK1 _ _ (ah fun K2 hK2 => ?_)
 refine ah fun K3 hK3 => aj (aa O O O (af O O) ?_)
 refine aa O O O (bf O O O Tryz.underlying9) (am O (aN O O (by kernel_rfl) O O (fun w hM hK => size64_c w)) ?_)
 intro _ _
 try simp only [setN, putD, selM, nth, cw, cx]
 refine aa O O O (bH O O O) (ai ?_)
 refine ae (hK3 _ _ ?_)
 refine cf O ((by simp; omega)) ?_
 refine aC (ae ?_)
 refine hK2 _ _ (ah fun K4 hK4 => ?_)
 refine aj (am O (aM [] [] O O (by kernel_rfl) O O O O (fun w hM hK => values_c w)) ?_)
 intro bm _
 try simp only [setN, putD, selM, nth, cw, cx]
 refine aa O O O (ak O O) (ai ?_)
 refine ae (hK4 _ _ ?_)
 refine ah fun K5 hK5 => aj (aa O O O (ak O O) ?_)
 refine ai (SL.Ok.nilRow 5 1 ?_)
 refine ae (hK5 _ _ ?_)
 refine ah fun K6 hK6 => aj (aa O O O (ak O O) ?_)
 refine aa O O O (ak O O) (aa O O O (ak O O) ?_)
 refine ai (ae ?_)
 refine hK6 _ _ (ah fun K7 hK7 => ?_)
 refine ah fun K8 hK8 => aj (aa O O O (af O O) ?_)
 refine aa O O O (bf O O O Tryz.underlying9) (aa O O O (af O O) ?_)
 refine ai (ae ?_)
 refine hK8 _ _ (aK ?_)
 refine bu (X := (Nat × DS × Option Addr × Nat × Nat)) (φ := fun X => X.1 ≤ s.length ∧ decL s (s.drop X.1) X.1 X.2.1 = decL s s 0 ds0 ∧ X.2.1.v < 2 ^ X.2.1.h ∧ X.2.1.h ≤ 7 ∧ X.2.1.o.length = X.2.2.2.2 ∧ X.2.2.2.2 ≤ X.1 ∧ X.2.2.2.2 ≤ X.2.2.2.1) (L := fun X => [(0, str s), (5, .map (some bm)), (6, .slice X.2.2.1 X.2.2.2.2 X.2.2.2.1), (7, .int .i64 X.2.1.v), (8, .int .i64 X.2.1.h), (9, .int .i64 X.2.1.last), (19, .int .i64 s.length), (20, .int .i64 X.1)]) (M := fun X => [.row (.slice X.2.2.1 X.2.2.2.2 X.2.2.2.1) 5 1 X.2.2.2.2 (bytesV X.2.1.o), .blk bm (valO 64)]) (μ := fun X => s.length - X.1) ?_ ?_
 ·
  exact fun _ _ st => ⟨(0, ds0, none, 0, 0), ⟨Nat.zero_le _, rfl, by decide, by decide, rfl, Nat.le_refl _, Nat.le_refl _⟩, st.to [0, 1] ⟨rfl, rfl, rfl, rfl, rfl, rfl, rfl, rfl, trivial⟩ O rfl⟩
 ·
  intro ⟨i, st, ga, gc, n⟩ ⟨hi, hde, hv, h7, hon, hni, hnc⟩
  try dsimp only
  dsimp only at hi hde hv h7 hon hni hnc
  have hv7 : st.v < 2 ^ 7 := Nat.lt_of_lt_of_le hv (Nat.pow_le_pow_right (by decide) h7)
  refine ah fun K9 hK9 => aj (aa O O O (aT O O O) ?_)
  refine ai (ae ?_)
  refine hK9 _ _ (ah fun K10 hK10 => ?_)
  refine aH O (fun hc21 => ?_) (fun hc21 => ?_)
  ·
   have hlt : i < s.length := by simp at hc21; omega
   have hci : s[((i : Nat) : Int).toNat]? = some (s.getD i 0) := by rw [Int.toNat_natCast]; exact gD hlt
   have hdr : s.drop i = s.getD i 0 :: s.drop (i + 1) := by rw [List.drop_eq_getElem_cons hlt]; congr 1; simp [List.getD, hlt]
   rw [hdr] at hde
   refine aC (ae ?_)
   refine hK10 _ _ (ah fun K11 hK11 => ?_)
   refine aK (ah fun K12 hK12 => ?_)
   refine aj (aa O O O (af O O) ?_)
   refine aa O O O (ak O O) (ai ?_)
   refine ae (hK12 _ _ ?_)
   refine ah fun K13 hK13 => aj (aa O O O (af O O) ?_)
   refine aa O O O (af O O) (aa O O O (af O O) ?_)
   refine aa O O O (bQ O O O Tryz.underlying9 (by omega) hci) ?_
   refine aa O O O (SL.Pure.lookup2 1 (s.getD i 0) (SL.KeyLike.u8 Tryz.underlying5) O O O Tryz.underlying226 (by kernel_rfl) O (look_dval _) (some_dval _)) ?_
   refine aa O O O (af O O) (aa O O O (aW O O O) ?_)
   refine aa O O O (aW O O O) (aa O O O (ak O O) ?_)
   refine aa O O O (ak O O) (ai ?_)
   refine ae (hK13 _ _ ?_)
   refine ah fun K14 hK14 => ah fun K15 hK15 => aj (aa O O O (af O O) ?_)
   refine aa O O O (bM O O) (ai ?_)
   refine ae (hK15 _ _ ?_)
   refine aH O (fun hc32 => ?_) (fun hc32 => ?_)
   ·
    have hdn : dval (s.getD i 0) = none := by simpa [-List.getD_eq_getElem?_getD] using hc32
    rw [decL_none hdn] at hde
    refine ah fun K16 hK16 => ah fun K17 hK17 => aj (aa O O O (af O O) ?_)
    refine aa O O O (af O O) (aa O O O (bQ O O O Tryz.underlying9 (by omega) hci) ?_)
    refine aa O O O (bt O O O) (aa O O O (af O O) ?_)
    refine aR (d := 37) O (fun hg37 => ?_) (fun hg37 => ?_)
    ·
     have h61 : s.getD i 0 = 61 := by rw [← UInt8.toNat_inj]; simp [-List.getD_eq_getElem?_getD] at hg37 ⊢; omega
     refine aq O O O O O O O (af O O) (aq O O O O O O O (af O O) ?_)
     refine SL.Ok.effG O O O O O (aN O O (by kernel_rfl) O O (fun w hM hK => inPlace_c s i hlt (by omega) w)) ?_
     intro _ _
     simp only [setN, putD, selM, nth, cw, cx]
     refine aa O O O (aF O O O) (ai ?_)
     refine ae (hK17 _ _ ?_)
     refine aH O (fun hc41 => ?_) (fun hc41 => ?_)
     ·
      have hip : inPl s i = true := by simpa using hc41
      rw [if_pos ⟨h61, hip⟩] at hde
      have hfin := hde.symm
      refine aU (aI ?_)
      refine aI (cm O ?_)
      refine aI (aI ?_)
      refine aV (ae ?_)
      refine hK7 _ _ (ah fun K18 hK18 => ?_)
      refine ah fun K19 hK19 => aj (aa O O O (af O O) ?_)
      refine aa O O O (bf O O O Tryz.underlying9) (aa O O O (SL.Pure.remI O O O (by omega) (by omega) (by omega)) ?_)
      refine aa O O O (bl O O O) (ai ?_)
      refine ae (hK19 _ _ ?_)
      refine aH O (fun hc70 => ?_) (fun hc70 => ?_)
      ·
       have h4 : s.length % 4 ≠ 0 := by simp at hc70; omega
       have hE : decE s = 4 := by rw [decE, hfin]; exact if_pos h4
       have hO : decO s = [] := by rw [decO, hfin]; exact if_pos h4
       refine ah fun K20 hK20 => aj (aa O O O (af O O) ?_)
       refine aa O O O (bf O O O Tryz.underlying9) (aa O O O (ak O O) ?_)
       refine aa O O O (ak O O) (aa O O O (ak O O) ?_)
       refine ai (ae ?_)
       refine hK20 _ _ (aw (aB av) (ar O (.cons (.tmp O) (.cons (.tmp O) (.cons (.tmp O) .nil))) O) (fun w' hM' hK' => ?_))
       rw [hE, hO]
       exact ⟨(none, 0, _), Nat.le_refl _, rfl, hK', (hM'.nilRow 5 1).sel [0] rfl⟩
      ·
       have h4 : ¬ s.length % 4 ≠ 0 := by simp at hc70; omega
       refine aC (ae ?_)
       refine hK18 _ _ (ah fun K21 hK21 => ?_)
       refine ah fun K22 hK22 => aj (aa O O O (af O O) ?_)
       refine aa O O O (bl O O O) (ai ?_)
       refine ae (hK22 _ _ ?_)
       refine aH O (fun hc74 => ?_) (fun hc74 => ?_)
       ·
        have hvz : st.v ≠ 0 := by simp at hc74; omega
        have hE : decE s = 3 := by rw [decE, hfin]; exact (if_neg h4).trans (if_pos hvz)
        have hO : decO s = [] := by rw [decO, hfin]; exact (if_neg h4).trans (if_pos hvz)
        refine ah fun K23 hK23 => aj (aa O O O (af O O) ?_)
        refine aa O O O (ak O O) (aa O O O (ak O O) ?_)
        refine aa O O O (ak O O) (ai ?_)
        refine ae (hK23 _ _ ?_)
        refine aw (aB av) (ar O (.cons (.tmp O) (.cons (.tmp O) (.cons (.tmp O) .nil))) O) (fun w' hM' hK' => ?_)
        rw [hE, hO]
        exact ⟨(none, 0, _), Nat.le_refl _, rfl, hK', (hM'.nilRow 5 1).sel [0] rfl⟩
       ·
        have hvz : ¬ st.v ≠ 0 := by simp at hc74; omega
        have hE : decE s = 0 := by rw [decE, hfin]; exact (if_neg h4).trans (if_neg hvz)
        have hO : decO s = st.o := by rw [decO, hfin]; exact (if_neg h4).trans (if_neg hvz)
        refine aC (ae ?_)
        refine hK21 _ _ (ah fun K24 hK24 => ?_)
        refine aj (aa O O O (af O O) ?_)
        refine aa O O O (ak O O) (aa O O O (ak O O) ?_)
        refine aa O O O (ak O O) (ai ?_)
        refine ae (hK24 _ _ ?_)
        refine aw av (ar O (.cons (.tmp O) (.cons (.tmp O) (.cons (.tmp O) .nil))) O) (fun w' hM' hK' => ?_)
        rw [hE, hO, hon]
        exact ⟨(ga, gc, _), hnc, rfl, hK', hM'.sel [0] rfl⟩
     ·
      have hip : ¬ inPl s i = true := by simpa using hc41
      rw [if_neg (fun h => hip h.2)] at hde
      refine aC (ae ?_)
      refine hK16 _ _ (ah fun K25 hK25 => ?_)
      refine aj (aa O O O (af O O) ?_)
      refine aa O O O (ak O O) (aa O O O (ak O O) ?_)
      refine aa O O O (ak O O) (ai ?_)
      refine ae (hK25 _ _ ?_)
      refine aw (aB (aP (aB (aB (aP (aB av)))))) (ar O (.cons (.tmp O) (.cons (.tmp O) (.cons (.tmp O) .nil))) O) (fun w' hM' hK' => ?_)
      have hE : decE s = 6 := by rw [decE, ← hde]
      have hO : decO s = [] := by rw [decO, ← hde]
      rw [hE, hO]
      exact ⟨(none, 0, _), Nat.le_refl _, rfl, hK', (hM'.nilRow 5 1).sel [0] rfl⟩
    ·
     have h61 : ¬ s.getD i 0 = 61 := by rw [← UInt8.toNat_inj]; simp [-List.getD_eq_getElem?_getD] at hg37 ⊢; omega
     rw [if_neg (fun h => h61 h.1)] at hde
     refine ag O O O O O O O (ag O O O O O O O ?_)
     refine ag O O O O O O O (aa O O O (aE O O O) ?_)
     refine ai (ae ?_)
     refine hK17 _ _ (bq O ?_)
     refine aC (ae ?_)
     refine hK16 _ _ (ah fun K26 hK26 => ?_)
     refine aj (aa O O O (af O O) ?_)
     refine aa O O O (ak O O) (aa O O O (ak O O) ?_)
     refine aa O O O (ak O O) (ai ?_)
     refine ae (hK26 _ _ ?_)
     refine aw (aB (aP (aB (aB (aP (aB av)))))) (ar O (.cons (.tmp O) (.cons (.tmp O) (.cons (.tmp O) .nil))) O) (fun w' hM' hK' => ?_)
     have hE : decE s = 6 := by rw [decE, ← hde]
     have hO : decO s = [] := by rw [decO, ← hde]
     rw [hE, hO]
     exact ⟨(none, 0, _), Nat.le_refl _, rfl, hK', (hM'.nilRow 5 1).sel [0] rfl⟩
   ·
    obtain ⟨x, hdx⟩ : ∃ x, dval (s.getD i 0) = some x := by
     cases hq : dval (s.getD i 0) with
     | none => rw [hq] at hc32; cases hc32
     | some x => exact ⟨x, rfl⟩
    rw [decL_some hdx] at hde
    have hx64 := dval_lt hdx
    have hok := dstep_ok (i := i) h7 hv hx64
    have hgx : (dval (s.getD i 0)).getD 0 = x := by rw [hdx]; rfl
    simp only [hgx]
    refine aC (ae ?_)
    refine hK14 _ _ (ah fun K27 hK27 => ?_)
    refine aj (aa O O O (af O O) ?_)
    refine aa O O O (ak O O) (ai ?_)
    refine ae (hK27 _ _ ?_)
    refine ah fun K28 hK28 => aj (aa O O O (af O O) ?_)
    refine aa O O O (cv (r := ((st.v * 2 ^ 6 : Nat) : Int)) O O O (by decide) (SL.shl_pow _ 6 (by decide) (by omega))) ?_
    refine aa O O O (af O O) (aa O O O (SL.Pure.or (r := ((st.v * 2 ^ 6 + x : Nat) : Int)) O O O (or6 _ _ (by omega) hx64)) ?_)
    refine aa O O O (af O O) (aa O O O (aL (r := ((st.h + 6 : Nat) : Int)) O O O (by omega) (by omega) (by omega)) ?_)
    refine aa O O O (ak O O) (aa O O O (ak O O) ?_)
    refine ai (ae ?_)
    refine hK28 _ _ (ah fun K29 hK29 => ?_)
    refine aj (aa O O O (af O O) ?_)
    refine aa O O O (bB O O O) (ai ?_)
    refine ae (hK29 _ _ ?_)
    refine aH O (fun hc51 => ?_) (fun hc51 => ?_)
    ·
     have h8 : 8 ≤ st.h + 6 := by simp at hc51; omega
     have hst : dstep st x i = ⟨st.o ++ [UInt8.ofNat ((st.v * 2 ^ 6 + x) / 2 ^ (st.h - 2))], (st.v * 2 ^ 6 + x) % 2 ^ (st.h - 2), st.h - 2, i⟩ := by rw [dstep, if_pos h8]
     have hk5 : 2 ^ (st.h - 2) ≤ 2 ^ 5 := Nat.pow_le_pow_right (by decide) (by omega)
     have hk0 := Nat.two_pow_pos (st.h - 2)
     refine ah fun K30 hK30 => aj (aa O O O (af O O) ?_)
     refine aa O O O (bU (r := ((st.h - 2 : Nat) : Int)) O O O (by omega) (by omega) (by omega)) ?_
     refine aa O O O (ak O O) (ai ?_)
     refine ae (hK30 _ _ ?_)
     refine ah fun K31 hK31 => aj (aa O O O (af O O) ?_)
     refine aa O O O (af O O) (aa O O O (af O O) ?_)
     refine aa O O O (cu (r := (((st.v * 2 ^ 6 + x) / 2 ^ (st.h - 2) : Nat) : Int)) O O O (by omega) (SL.fdiv_pow _ _ (by omega) _ O)) ?_
     refine aa O O O (bT (r := ((UInt8.ofNat ((st.v * 2 ^ 6 + x) / 2 ^ (st.h - 2))).toNat : Int)) O O (by kernel_rfl) Tryz.underlying5 (u8c _)) ?_
     refine am O (by exact bW #[.int .u8 0] [.int .u8 (UInt8.ofNat ((st.v * 2 ^ 6 + x) / 2 ^ (st.h - 2))).toNat] O O Tryz.underlying52 (by kernel_rfl) (by kernel_rfl) O (by decide) O O) ?_
     intro g59 _
     try simp only [setN, putD, selM, nth, cw, cx]
     refine am O (by exact bF (by' := 1) 1 [2] O O O O Tryz.underlying52 Tryz.underlying52 (by kernel_rfl) (fun w' hM _ => bK (i := 0) O hM) (SL.bytesV_one [UInt8.ofNat ((st.v * 2 ^ 6 + x) / 2 ^ (st.h - 2))]) O O O O (by omega) (by omega)) ?_
     intro v60 hv60
     try simp only [setN, putD, selM, nth, cw, cx]
     have hpx : bytesV st.o ++ [Value.int IntKind.u8 ((UInt8.ofNat ((st.v * 2 ^ 6 + x) / 2 ^ (st.h - 2))).toNat : Int)] = bytesV (st.o ++ [UInt8.ofNat ((st.v * 2 ^ 6 + x) / 2 ^ (st.h - 2))]) := by rw [bytesV_append]; rfl
     simp only [hpx]
     refine SL.Ok.rowSlice 0 O ?_
     rintro ⟨a', c', rfl, hc'⟩
     refine aa O O O (ak O O) (ai ?_)
     refine ae (hK31 _ _ ?_)
     refine aj (aa O O O (af O O) ?_)
     refine aa O O O (af O O) (aa O O O (cv (r := ((2 ^ (st.h - 2) : Nat) : Int)) O O O (by omega) (by have := SL.shl_pow 1 (st.h - 2) (by omega) (by omega); rw [Nat.one_mul] at this; exact this)) ?_)
     refine aa O O O (bU (r := ((2 ^ (st.h - 2) - 1 : Nat) : Int)) O O O (by omega) (by omega) (by omega)) ?_
     refine aa O O O (cr (r := (((st.v * 2 ^ 6 + x) % 2 ^ (st.h - 2) : Nat) : Int)) O O O (SL.and_mask _ _ (by omega) (by omega))) ?_
     refine aa O O O (ak O O) (ai ?_)
     refine aQ (ae ?_)
     refine hK11 _ _ (aj ?_)
     refine aa O O O (aL O O O O (by omega) (by omega)) ?_
     refine aa O O O (af O O) (ai ?_)
     refine ae ?_
     exact bd (i + 1, ⟨st.o ++ [UInt8.ofNat ((st.v * 2 ^ 6 + x) / 2 ^ (st.h - 2))], (st.v * 2 ^ 6 + x) % 2 ^ (st.h - 2), st.h - 2, i⟩, a', c', n + 1) [0, 1] ⟨hlt, by rw [hst] at hde; exact hde, by rw [hst] at hok; exact hok.2.1, by rw [hst] at hok; exact hok.1, by simp only [List.length_append, List.length_singleton]; omega, show n + 1 ≤ i + 1 by omega, hc'⟩ (show s.length - (i + 1) < s.length - i by omega) ⟨rfl, rfl, rfl, rfl, rfl, rfl, rfl, rfl, trivial⟩ O rfl
    ·
     have h8 : ¬ 8 ≤ st.h + 6 := by simp at hc51; omega
     have hst : dstep st x i = ⟨st.o, st.v * 2 ^ 6 + x, st.h + 6, i⟩ := by rw [dstep, if_neg h8]
     refine aC (aQ ?_)
     refine ae (hK11 _ _ ?_)
     refine aj (aa O O O (aL O O O O (by omega) (by omega)) ?_)
     refine aa O O O (af O O) (ai ?_)
     refine ae ?_
     exact bd (i + 1, ⟨st.o, st.v * 2 ^ 6 + x, st.h + 6, i⟩, ga, gc, n) [0, 1] ⟨hlt, by rw [hst] at hde; exact hde, by rw [hst] at hok; exact hok.2.1, by rw [hst] at hok; exact hok.1, hon, show n ≤ i + 1 by omega, hnc⟩ (show s.length - (i + 1) < s.length - i by omega) ⟨rfl, rfl, rfl, rfl, rfl, rfl, rfl, rfl, trivial⟩ O rfl
  ·
   have hge : i = s.length := by simp at hc21; omega
   have hfin : decL s s 0 ds0 = some st := by rw [← hde, hge, List.drop_length]; rfl
   refine aU (aI ?_)
   refine aI (aV ?_)
   refine ae (hK7 _ _ ?_)
   refine ah fun K32 hK32 => ah fun K33 hK33 => aj (aa O O O (af O O) ?_)
   refine aa O O O (bf O O O Tryz.underlying9) (aa O O O (SL.Pure.remI O O O (by omega) (by omega) (by omega)) ?_)
   refine aa O O O (bl O O O) (ai ?_)
   refine ae (hK33 _ _ ?_)
   refine aH O (fun hc70 => ?_) (fun hc70 => ?_)
   ·
    have h4 : s.length % 4 ≠ 0 := by simp at hc70; omega
    have hE : decE s = 4 := by rw [decE, hfin]; exact if_pos h4
    have hO : decO s = [] := by rw [decO, hfin]; exact if_pos h4
    refine ah fun K34 hK34 => aj (aa O O O (af O O) ?_)
    refine aa O O O (bf O O O Tryz.underlying9) (aa O O O (ak O O) ?_)
    refine aa O O O (ak O O) (aa O O O (ak O O) ?_)
    refine ai (ae ?_)
    refine hK34 _ _ (aw (aB av) (ar O (.cons (.tmp O) (.cons (.tmp O) (.cons (.tmp O) .nil))) O) (fun w' hM' hK' => ?_))
    rw [hE, hO]
    exact ⟨(none, 0, _), Nat.le_refl _, rfl, hK', (hM'.nilRow 5 1).sel [0] rfl⟩
   ·
    have h4 : ¬ s.length % 4 ≠ 0 := by simp at hc70; omega
    refine aC (ae ?_)
    refine hK32 _ _ (ah fun K35 hK35 => ?_)
    refine ah fun K36 hK36 => aj (aa O O O (af O O) ?_)
    refine aa O O O (bl O O O) (ai ?_)
    refine ae (hK36 _ _ ?_)
    refine aH O (fun hc74 => ?_) (fun hc74 => ?_)
    ·
     have hvz : st.v ≠ 0 := by simp at hc74; omega
     have hE : decE s = 3 := by rw [decE, hfin]; exact (if_neg h4).trans (if_pos hvz)
     have hO : decO s = [] := by rw [decO, hfin]; exact (if_neg h4).trans (if_pos hvz)
     refine ah fun K37 hK37 => aj (aa O O O (af O O) ?_)
     refine aa O O O (ak O O) (aa O O O (ak O O) ?_)
     refine aa O O O (ak O O) (ai ?_)
     refine ae (hK37 _ _ ?_)
     refine aw (aB av) (ar O (.cons (.tmp O) (.cons (.tmp O) (.cons (.tmp O) .nil))) O) (fun w' hM' hK' => ?_)
     rw [hE, hO]
     exact ⟨(none, 0, _), Nat.le_refl _, rfl, hK', (hM'.nilRow 5 1).sel [0] rfl⟩
    ·
     have hvz : ¬ st.v ≠ 0 := by simp at hc74; omega
     have hE : decE s = 0 := by rw [decE, hfin]; exact (if_neg h4).trans (if_neg hvz)
     have hO : decO s = st.o := by rw [decO, hfin]; exact (if_neg h4).trans (if_neg hvz)
     refine aC (ae ?_)
     refine hK35 _ _ (ah fun K38 hK38 => ?_)
     refine aj (aa O O O (af O O) ?_)
     refine aa O O O (ak O O) (aa O O O (ak O O) ?_)
     refine aa O O O (ak O O) (ai ?_)
     refine ae (hK38 _ _ ?_)
     refine aw av (ar O (.cons (.tmp O) (.cons (.tmp O) (.cons (.tmp O) .nil))) O) (fun w' hM' hK' => ?_)
     rw [hE, hO, hon]
     exact ⟨(ga, gc, _), hnc, rfl, hK', hM'.sel [0] rfl⟩
end Go.Proofs.YthfhhkanpnemcaaGreatDoor
