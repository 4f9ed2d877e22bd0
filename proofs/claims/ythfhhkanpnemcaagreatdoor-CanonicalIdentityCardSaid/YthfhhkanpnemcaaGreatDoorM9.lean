/- Control texts: digits, authors, moderators. Comparing bytes; the order of moderators. Identities read back from their texts. Identities: Parse. Control texts: the reader of words. -/
import Derived.Test.YthfhhkanpnemcaaGreatDoorM5
import Derived.Test.YthfhhkanpnemcaaGreatDoorM2
import Derived.Lib.Bytealg
import Derived.Test.YthfhhkanpnemcaaGreatDoorM8
namespace Go.SL
open Go.RowKit
section
variable {P : Program} {n : Nat} {W : Nat → Prop} {w0 : World} {l : List (Nat × Value)} {m : List Res} {o : Oper}
theorem u8_shl (a : UInt8) (k : Nat) (hk : k < 8) : IntKind.u8.wrap ((a.toNat : Int) * 2 ^ (min k 8)) = ((a <<< UInt8.ofNat k).toNat : Int) := by
 have e : (UInt8.ofNat k).toNat % 8 = k := by
  rw [UInt8.toNat_ofNat']
  omega
 have e2 : (a <<< UInt8.ofNat k).toNat = a.toNat * 2 ^ k % 256 := by
  rw [UInt8.toNat_shiftLeft, e, Nat.shiftLeft_eq]
 have e3 : (a.toNat : Int) * 2 ^ k = ((a.toNat * 2 ^ k : Nat) : Int) := by rw [Int.natCast_mul, Int.natCast_pow]; rfl
 rw [show min k 8 = k by omega, IntKind.wrap_u8, e2, e3]
 generalize a.toNat * 2 ^ k = z
 omega
theorem Pure.shlU8 (k : Nat) {p : UInt8} {x y : Operand} {yk : IntKind} {t t' : TypeId} (ho : o.op = .binOp .shl t x y t') (hx : ev l x = some (.int .u8 p.toNat)) (hy : ev l y = some (.int yk k)) (hk : k < 8) : Pure P n W w0 l m o (.int .u8 (p <<< UInt8.ofNat k).toNat) :=
 Pure.shl ho hx hy (Int.natCast_nonneg k) (by rw [Int.toNat_natCast]; exact u8_shl p k hk)
end
end Go.SL
namespace Go.Proofs.YthfhhkanpnemcaaGreatDoor
open Go.SL Go.RowKit IntWalk
set_option linter.unusedVariables false
set_option maxRecDepth 100000
set_option linter.unusedSimpArgs false
set_option maxHeartbeats 400000

/-- the value of a digit in small letters, or -1 -/
def digM (c : UInt8) : Int := if 48 ≤ c.toNat ∧ c.toNat ≤ 57 then (c.toNat : Int) - 48 else if 97 ≤ c.toNat ∧ c.toNat ≤ 102 then (c.toNat : Int) - 87 else -1
theorem digM_lt (c : UInt8) : -1 ≤ digM c ∧ digM c < 16 := by
 unfold digM
 split
 ·
  omega
 ·
  split <;> omega

theorem cdigit_c (c : UInt8) (w : World) : Calls Tryz.prog 180 [.int .u8 c.toNat].toArray w fun e w' => e = .returned (.int .i64 (digM c)) ∧ Keeps none1 w w' := by
 have hc := c.toNat_lt
 refine aJ (n := 24) (W := SL.none1) (m := []) Tryz.func180 O Tryz.ntmps180 O (aO _ _ _) ?_
 simp only [SL.enum, Nat.reduceAdd]
 refine ah fun K1 hK1 => aj (aa O O O (ak O O) ?_)
 refine ai (ae ?_)
 refine hK1 _ _ (ah fun K2 hK2 => ?_)
 refine aK (ah fun K3 hK3 => ?_)
 refine aj (aa O O O (af O O) ?_)
 refine aa O O O (bB O O O) (aa O O O (af O O) ?_)
 refine aR (d := 6) O (fun hg6 => ?_) (fun hg6 => ?_)
 ·
  have h1 : 48 ≤ c.toNat := by simp at hg6; omega
  refine aq O O O O O O O (af O O) (aq O O O O O O O (bD O O O) ?_)
  refine aa O O O (aF O O O) (aa O O O (ak O O) ?_)
  refine ai (ae ?_)
  refine hK3 _ _ (aH O (fun hc3 => ?_) (fun hc3 => ?_))
  ·
   have h2 : c.toNat ≤ 57 := by simp at hc3; omega
   refine ah fun K4 hK4 => aj (aa O O O (af O O) ?_)
   refine aa O O O (SL.Pure.subW (r := (c.toNat : Int) - 48) O O O (by rw [IntKind.wrap_u8]; omega)) ?_
   refine aa O O O (bT (r := (c.toNat : Int) - 48) O O (by kernel_rfl) Tryz.underlying3 (by rw [IntKind.wrap_i64]; omega)) ?_
   refine aa O O O (ak O O) (ai ?_)
   refine ae (hK4 _ _ ?_)
   refine aw (aP (aB av)) (ar O (.cons (.tmp O) .nil) O) (fun w' hM' hK' => ?_)
   exact ⟨by first | (rw [digM, if_pos (by omega)]; done) | (rw [digM, if_neg (by omega), if_pos (by omega)]; done) | (rw [digM, if_neg (by omega), if_neg (by omega)]; done) | (rw [digM, if_pos (by omega)]; rfl) | (rw [digM, if_neg (by omega), if_pos (by omega)]; rfl) | (rw [digM, if_neg (by omega), if_neg (by omega)]; rfl), hK'⟩
  ·
   have h2 : ¬ c.toNat ≤ 57 := by simp at hc3; omega
   refine ah fun K5 hK5 => aj (aa O O O (af O O) ?_)
   refine aa O O O (bB O O O) (aa O O O (af O O) ?_)
   refine aR (d := 16) O (fun hg16 => ?_) (fun hg16 => ?_)
   ·
    have h3 : 97 ≤ c.toNat := by simp at hg16; omega
    refine aq O O O O O O O (af O O) (aq O O O O O O O (bD O O O) ?_)
    refine aa O O O (aF O O O) (aa O O O (ak O O) ?_)
    refine ai (ae ?_)
    refine hK5 _ _ (aH O (fun hc13 => ?_) (fun hc13 => ?_))
    ·
     have h4 : c.toNat ≤ 102 := by simp at hc13; omega
     refine ah fun K6 hK6 => aj (aa O O O (af O O) ?_)
     refine aa O O O (SL.Pure.subW (r := (c.toNat : Int) - 97) O O O (by rw [IntKind.wrap_u8]; omega)) ?_
     refine aa O O O (bT (r := (c.toNat : Int) - 97) O O (by kernel_rfl) Tryz.underlying3 (by rw [IntKind.wrap_i64]; omega)) ?_
     refine aa O O O (aL (r := (c.toNat : Int) - 87) O O O (by omega) (by omega) (by omega)) ?_
     refine aa O O O (ak O O) (ai ?_)
     refine ae (hK6 _ _ ?_)
     refine aw (aP (aB av)) (ar O (.cons (.tmp O) .nil) O) (fun w' hM' hK' => ?_)
     exact ⟨by first | (rw [digM, if_pos (by omega)]; done) | (rw [digM, if_neg (by omega), if_pos (by omega)]; done) | (rw [digM, if_neg (by omega), if_neg (by omega)]; done) | (rw [digM, if_pos (by omega)]; rfl) | (rw [digM, if_neg (by omega), if_pos (by omega)]; rfl) | (rw [digM, if_neg (by omega), if_neg (by omega)]; rfl), hK'⟩
    ·
     have h4 : ¬ c.toNat ≤ 102 := by simp at hc13; omega
     refine aC (aQ ?_)
     refine ae (hK2 _ _ ?_)
     refine ah fun K7 hK7 => aj (aa O O O (ak O O) ?_)
     refine ai (ae ?_)
     refine hK7 _ _ (aw av (ar O (.cons (.tmp O) .nil) O) (fun w' hM' hK' => ?_))
     exact ⟨by first | (rw [digM, if_pos (by omega)]; done) | (rw [digM, if_neg (by omega), if_pos (by omega)]; done) | (rw [digM, if_neg (by omega), if_neg (by omega)]; done) | (rw [digM, if_pos (by omega)]; rfl) | (rw [digM, if_neg (by omega), if_pos (by omega)]; rfl) | (rw [digM, if_neg (by omega), if_neg (by omega)]; rfl), hK'⟩
   ·
    have h3 : ¬ 97 ≤ c.toNat := by simp at hg16; omega
    refine ag O O O O O O O (ag O O O O O O O ?_)
    refine aa O O O (aE O O O) (aa O O O (ak O O) ?_)
    refine ai (ae ?_)
    refine hK5 _ _ (bq O ?_)
    refine aC (aQ ?_)
    refine ae (hK2 _ _ ?_)
    refine ah fun K8 hK8 => aj (aa O O O (ak O O) ?_)
    refine ai (ae ?_)
    refine hK8 _ _ (aw av (ar O (.cons (.tmp O) .nil) O) (fun w' hM' hK' => ?_))
    exact ⟨by first | (rw [digM, if_pos (by omega)]; done) | (rw [digM, if_neg (by omega), if_pos (by omega)]; done) | (rw [digM, if_neg (by omega), if_neg (by omega)]; done) | (rw [digM, if_pos (by omega)]; rfl) | (rw [digM, if_neg (by omega), if_pos (by omega)]; rfl) | (rw [digM, if_neg (by omega), if_neg (by omega)]; rfl), hK'⟩
 ·
  have h1 : ¬ 48 ≤ c.toNat := by simp at hg6; omega
  refine ag O O O O O O O (ag O O O O O O O ?_)
  refine aa O O O (aE O O O) (aa O O O (ak O O) ?_)
  refine ai (ae ?_)
  refine hK3 _ _ (bq O ?_)
  refine ah fun K9 hK9 => aj (aa O O O (af O O) ?_)
  refine aa O O O (bB O O O) (aa O O O (af O O) ?_)
  refine aR (d := 16) O (fun hg16 => ?_) (fun hg16 => ?_)
  ·
   have h3 : 97 ≤ c.toNat := by simp at hg16; omega
   refine aq O O O O O O O (af O O) (aq O O O O O O O (bD O O O) ?_)
   refine aa O O O (aF O O O) (aa O O O (ak O O) ?_)
   refine ai (ae ?_)
   refine hK9 _ _ (aH O (fun hc13 => ?_) (fun hc13 => ?_))
   ·
    have h4 : c.toNat ≤ 102 := by simp at hc13; omega
    refine ah fun K10 hK10 => aj (aa O O O (af O O) ?_)
    refine aa O O O (SL.Pure.subW (r := (c.toNat : Int) - 97) O O O (by rw [IntKind.wrap_u8]; omega)) ?_
    refine aa O O O (bT (r := (c.toNat : Int) - 97) O O (by kernel_rfl) Tryz.underlying3 (by rw [IntKind.wrap_i64]; omega)) ?_
    refine aa O O O (aL (r := (c.toNat : Int) - 87) O O O (by omega) (by omega) (by omega)) ?_
    refine aa O O O (ak O O) (ai ?_)
    refine ae (hK10 _ _ ?_)
    refine aw (aP (aB av)) (ar O (.cons (.tmp O) .nil) O) (fun w' hM' hK' => ?_)
    exact ⟨by first | (rw [digM, if_pos (by omega)]; done) | (rw [digM, if_neg (by omega), if_pos (by omega)]; done) | (rw [digM, if_neg (by omega), if_neg (by omega)]; done) | (rw [digM, if_pos (by omega)]; rfl) | (rw [digM, if_neg (by omega), if_pos (by omega)]; rfl) | (rw [digM, if_neg (by omega), if_neg (by omega)]; rfl), hK'⟩
   ·
    have h4 : ¬ c.toNat ≤ 102 := by simp at hc13; omega
    refine aC (aQ ?_)
    refine ae (hK2 _ _ ?_)
    refine ah fun K11 hK11 => aj (aa O O O (ak O O) ?_)
    refine ai (ae ?_)
    refine hK11 _ _ (aw av (ar O (.cons (.tmp O) .nil) O) (fun w' hM' hK' => ?_))
    exact ⟨by first | (rw [digM, if_pos (by omega)]; done) | (rw [digM, if_neg (by omega), if_pos (by omega)]; done) | (rw [digM, if_neg (by omega), if_neg (by omega)]; done) | (rw [digM, if_pos (by omega)]; rfl) | (rw [digM, if_neg (by omega), if_pos (by omega)]; rfl) | (rw [digM, if_neg (by omega), if_neg (by omega)]; rfl), hK'⟩
  ·
   have h3 : ¬ 97 ≤ c.toNat := by simp at hg16; omega
   refine ag O O O O O O O (ag O O O O O O O ?_)
   refine aa O O O (aE O O O) (aa O O O (ak O O) ?_)
   refine ai (ae ?_)
   refine hK9 _ _ (bq O ?_)
   refine aC (aQ ?_)
   refine ae (hK2 _ _ ?_)
   refine ah fun K12 hK12 => aj (aa O O O (ak O O) ?_)
   refine ai (ae ?_)
   refine hK12 _ _ (aw av (ar O (.cons (.tmp O) .nil) O) (fun w' hM' hK' => ?_))
   exact ⟨by first | (rw [digM, if_pos (by omega)]; done) | (rw [digM, if_neg (by omega), if_pos (by omega)]; done) | (rw [digM, if_neg (by omega), if_neg (by omega)]; done) | (rw [digM, if_pos (by omega)]; rfl) | (rw [digM, if_neg (by omega), if_pos (by omega)]; rfl) | (rw [digM, if_neg (by omega), if_neg (by omega)]; rfl), hK'⟩

def auS (b : B 16) (i : Nat) (c : UInt8) : B 16 := b.set (i / 2) (b.get (i / 2) <<< 4 ||| UInt8.ofNat (digM c).toNat)
/-- what an author's text is read as, its first i digits -/
def auF (s : List UInt8) : Nat → B 16
 | 0 => B.zero 16
 | i + 1 => auS (auF s i) i (s.getD i 0)
def auBad (s : List UInt8) : Bool := (s.take 32).any fun c => decide (digM c < 0)
def auE (s : List UInt8) : Int := if auBad s then 6 else if s.length < 32 then 4 else if 32 < s.length then 5 else 0
def auV (s : List UInt8) : B 16 := if auE s = 0 then auF s 32 else B.zero 16

abbrev auO (b : B 16) : Obj := .cells (flat [b.seg]) 33 (0, 0)
theorem parseAuthor_c (s : List UInt8) (w : World) : Calls Tryz.prog 164 [str s].toArray w fun e w' => ∃ at_ : Int, True ∧ e = .returned (.tuple #[.agg (flat [(auV s).seg]), .int .i64 at_, .int .i64 (auE s)]) ∧ Post w (blocksOf []) [] w' := by
 refine aJ (n := 46) (W := (blocksOf [])) (m := []) Tryz.func164 O Tryz.ntmps164 O (aO _ _ _) ?_
 simp only [SL.enum, Nat.reduceAdd]
 refine ah fun K1 hK1 => aj (am O (aX [(B.zero 16).seg] O O O (by kernel_rfl)) ?_)
 intro b2 _
 try simp only [setN, putD, selM, nth, cw, cx]
 refine aa O O O (ak O O) (aa O O O (ak O O) ?_)
 refine ai (ae ?_)
 refine hK1 _ _ (ah fun K2 hK2 => ?_)
 refine ah fun K3 hK3 => aj (aa O O O (af O O) ?_)
 refine aa O O O (bf O O O Tryz.underlying9) (aa O O O (SL.Pure.min2 O O O) ?_)
 refine aa O O O (af O O) (ai ?_)
 refine ae (hK3 _ _ ?_)
 refine aK (bu (X := Nat) (φ := fun i => i ≤ min s.length 32 ∧ ((s.take i).any fun c => decide (digM c < 0)) = false) (L := fun i => [(0, str s), (2, .pointer (some ⟨b2, 0, none⟩)), (9, .int .i64 (min (s.length : Int) 32)), (10, .int .i64 i)]) (M := fun i => [.blk b2 (auO (auF s i))]) (μ := fun i => 32 - i) ?_ ?_)
 ·
  exact fun _ _ st => ⟨0, ⟨Nat.zero_le _, by simp⟩, st.to [0] ⟨rfl, rfl, rfl, rfl, trivial⟩ O rfl⟩
 ·
  intro i ⟨hi, hno⟩
  try dsimp only
  refine ah fun K4 hK4 => aj (aa O O O (aT O O O) ?_)
  refine ai (ae ?_)
  refine hK4 _ _ (ah fun K5 hK5 => ?_)
  refine aH O (fun hc11 => ?_) (fun hc11 => ?_)
  ·
   have hlt : i < min s.length 32 := by simp at hc11; omega
   have hls : i < s.length := by omega
   have hci : s[((i : Nat) : Int).toNat]? = some (s.getD i 0) := by simp [List.getD, hls]
   have hd := digM_lt (s.getD i 0)
   have htk : (s.take (i + 1)).any (fun c => decide (digM c < 0)) = decide (digM (s.getD i 0) < 0) := by
    rw [List.take_succ_eq_append_getElem hls, List.any_append, hno]
    simp [List.getD, hls]
   refine aC (ae ?_)
   refine hK5 _ _ (ah fun K6 hK6 => ?_)
   refine aK (ah fun K7 hK7 => ?_)
   refine aj (aa O O O (af O O) ?_)
   refine aa O O O (ak O O) (ai ?_)
   refine ae (hK7 _ _ ?_)
   refine ah fun K8 hK8 => aj (aa O O O (af O O) ?_)
   refine aa O O O (af O O) (aa O O O (bQ O O O Tryz.underlying9 (by omega) (by assumption)) ?_)
   refine am O (aN O O (by kernel_rfl) O O (fun w hM hK => cdigit_c (s.getD i 0) w)) ?_
   intro _ _
   try simp only [setN, putD, selM, nth, cw, cx]
   refine aa O O O (ak O O) (ai ?_)
   refine ae (hK8 _ _ ?_)
   refine ah fun K9 hK9 => ah fun K10 hK10 => aj (aa O O O (af O O) ?_)
   refine aa O O O (aT O O O) (ai ?_)
   refine ae (hK10 _ _ ?_)
   refine aH O (fun hc18 => ?_) (fun hc18 => ?_)
   ·
    have hneg : digM (s.getD i 0) < 0 := by simpa [-List.getD_eq_getElem?_getD] using hc18
    refine ah fun K11 hK11 => aj (aa O O O (bg [(0, 1), (1, 1), (2, 1), (3, 1), (4, 1), (5, 1), (6, 1), (7, 1), (8, 1), (9, 1), (10, 1), (11, 1), (12, 1), (13, 1), (14, 1), (15, 1)] [(B.zero 16).seg] O O .nil (by kernel_rfl) (by kernel_rfl) O) ?_)
    refine aa O O O (af O O) (am O (by first | exact ap (k := 16) 0 _ O O O O O O (by kernel_rfl) O O) ?_)
    intro _ _
    try simp only [setN, putD, selM, nth, cw, cx]
    refine aa O O O (ak O O) (aa O O O (ak O O) ?_)
    refine ai (ae ?_)
    refine hK11 _ _ (aw (aB (aP (aB (aB (aP (aB av)))))) (ar O (.cons (by first | exact SL.RV.cellA 0 (k := 16) O O (by kernel_rfl) O (by kernel_rfl)) (.cons (.tmp O) (.cons (.tmp O) .nil))) O) (fun w' hM' hK' => ?_))
    have he : auE s = 6 := by
     unfold auE
     rw [if_pos]
     unfold auBad
     rw [List.any_eq_true]
     exact ⟨s.getD i 0, by rw [show s.getD i 0 = s[i] by simp [List.getD, hls]]; exact List.mem_take_iff_getElem.2 ⟨i, by omega, rfl⟩, by simpa [-List.getD_eq_getElem?_getD] using hneg⟩
    exact ⟨_, trivial, by rw [auV, he, if_neg (by decide)]; rfl, hK', hM'.sel [] rfl⟩
   ·
    have hneg : ¬ digM (s.getD i 0) < 0 := by simpa [-List.getD_eq_getElem?_getD] using hc18
    refine aC (ae ?_)
    refine hK9 _ _ (aj ?_)
    refine aa O O O (af O O) (aa O O O (SL.Pure.quoI O O O (by omega) (by omega) (by omega)) ?_)
    refine aa O O O (af O O) (aa O O O (SL.Pure.quoI O O O (by omega) (by omega) (by omega)) ?_)
    refine aa O O O (bR (off' := i / 2) (sz := 1) O O O Tryz.underlying33 (by kernel_rfl) (by omega) (by omega) (by omega)) ?_
    refine aa O O O (ce 0 O O O (cn (auF s i) (show i / 2 < 16 by omega)) (by kernel_rfl)) ?_
    refine aa O O O (SL.Pure.shlU8 4 O O O (by decide)) ?_
    refine aa O O O (af O O) (aa O O O (bT (r := ((UInt8.ofNat (digM (s.getD i 0)).toNat).toNat : Int)) O O (by kernel_rfl) Tryz.underlying5 (by rw [IntKind.wrap_u8, UInt8.toNat_ofNat']; omega)) ?_)
    refine aa O O O (SL.Pure.orU8 _ _ O O O) (aa O O O (bR (off' := i / 2) (sz := 1) O O O Tryz.underlying33 (by kernel_rfl) (by omega) (by omega) (by omega)) ?_)
    refine am O (cl 0 O O O O O (by kernel_rfl) (by omega)) ?_
    intro _ _
    try simp only [setN, putD, selM, nth, cw, cx]
    refine ai (aQ ?_)
    refine ae (hK6 _ _ ?_)
    refine aj (aa O O O (aL O O O O (by omega) (by omega)) ?_)
    refine aa O O O (af O O) (ai ?_)
    refine ae ?_
    exact bd (i + 1) [0] ⟨by omega, by rw [htk]; simpa [-List.getD_eq_getElem?_getD] using hneg⟩ (show 32 - (i + 1) < 32 - i by omega) ⟨rfl, rfl, rfl, rfl, trivial⟩ O rfl
  ·
   have hge : i = min s.length 32 := by simp at hc11; omega
   have htk : auBad s = false := by
    unfold auBad
    rw [← hno]
    congr 1
    by_cases h : s.length ≤ 32
    ·
     rw [List.take_of_length_le h, List.take_of_length_le (by omega)]
    ·
     rw [show i = 32 by omega]
   refine aU (aI ?_)
   refine aI (aV ?_)
   refine ae (hK2 _ _ ?_)
   refine ah fun K12 hK12 => aK (ah fun K13 hK13 => ?_)
   refine aj (aa O O O (af O O) ?_)
   refine aa O O O (bf O O O Tryz.underlying9) (aa O O O (aT O O O) ?_)
   refine aa O O O (ak O O) (ai ?_)
   refine ae (hK13 _ _ ?_)
   refine aH O (fun hc33 => ?_) (fun hc33 => ?_)
   ·
    refine ah fun K14 hK14 => aj (aa O O O (bg [(0, 1), (1, 1), (2, 1), (3, 1), (4, 1), (5, 1), (6, 1), (7, 1), (8, 1), (9, 1), (10, 1), (11, 1), (12, 1), (13, 1), (14, 1), (15, 1)] [(B.zero 16).seg] O O .nil (by kernel_rfl) (by kernel_rfl) O) ?_)
    refine aa O O O (af O O) (aa O O O (bf O O O Tryz.underlying9) ?_)
    refine am O (by first | exact ap (k := 16) 0 _ O O O O O O (by kernel_rfl) O O) ?_
    intro _ _
    try simp only [setN, putD, selM, nth, cw, cx]
    refine aa O O O (ak O O) (aa O O O (ak O O) ?_)
    refine ai (ae ?_)
    refine hK14 _ _ (aw (aP (aB av)) (ar O (.cons (by first | exact SL.RV.cellA 0 (k := 16) O O (by kernel_rfl) O (by kernel_rfl)) (.cons (.tmp O) (.cons (.tmp O) .nil))) O) (fun w' hM' hK' => ?_))
    have hl : s.length < 32 := by simp at hc33; omega
    have he : auE s = 4 := by unfold auE; rw [if_neg (by simp [htk]), if_pos hl]
    exact ⟨_, trivial, by rw [auV, he, if_neg (by decide)]; rfl, hK', hM'.sel [] rfl⟩
   ·
    refine ah fun K15 hK15 => aj (aa O O O (af O O) ?_)
    refine aa O O O (bf O O O Tryz.underlying9) (aa O O O (bH O O O) ?_)
    refine aa O O O (ak O O) (ai ?_)
    refine ae (hK15 _ _ ?_)
    refine aH O (fun hc40 => ?_) (fun hc40 => ?_)
    ·
     refine ah fun K16 hK16 => aj (aa O O O (bg [(0, 1), (1, 1), (2, 1), (3, 1), (4, 1), (5, 1), (6, 1), (7, 1), (8, 1), (9, 1), (10, 1), (11, 1), (12, 1), (13, 1), (14, 1), (15, 1)] [(B.zero 16).seg] O O .nil (by kernel_rfl) (by kernel_rfl) O) ?_)
     refine am O (by first | exact ap (k := 16) 0 _ O O O O O O (by kernel_rfl) O O) ?_
     intro _ _
     try simp only [setN, putD, selM, nth, cw, cx]
     refine aa O O O (ak O O) (aa O O O (ak O O) ?_)
     refine ai (ae ?_)
     refine hK16 _ _ (aw (aP (aB av)) (ar O (.cons (by first | exact SL.RV.cellA 0 (k := 16) O O (by kernel_rfl) O (by kernel_rfl)) (.cons (.tmp O) (.cons (.tmp O) .nil))) O) (fun w' hM' hK' => ?_))
     have hl : 32 < s.length := by simp at hc40; omega
     have he : auE s = 5 := by unfold auE; rw [if_neg (by simp [htk]), if_neg (by omega), if_pos hl]
     exact ⟨_, trivial, by rw [auV, he, if_neg (by decide)]; rfl, hK', hM'.sel [] rfl⟩
    ·
     refine aC (aQ ?_)
     refine ae (hK12 _ _ ?_)
     refine ah fun K17 hK17 => aj (aa O O O (by first | exact ay 0 (k := 16) O O O (by kernel_rfl) O (by kernel_rfl)) ?_)
     refine am O (by first | exact ap (k := 16) 0 _ O O O O O O (by kernel_rfl) O O) ?_
     intro _ _
     try simp only [setN, putD, selM, nth, cw, cx]
     refine aa O O O (ak O O) (aa O O O (ak O O) ?_)
     refine ai (ae ?_)
     refine hK17 _ _ (aw av (ar O (.cons (by first | exact SL.RV.cellA 0 (k := 16) O O (by kernel_rfl) O (by kernel_rfl)) (.cons (.tmp O) (.cons (.tmp O) .nil))) O) (fun w' hM' hK' => ?_))
     have hl : s.length = 32 := by simp at hc40 hc33; omega
     have he : auE s = 0 := by unfold auE; rw [if_neg (by simp [htk]), if_neg (by omega), if_neg (by omega)]
     have hi32 : i = 32 := by omega
     exact ⟨_, trivial, by rw [auV, he, if_pos rfl, ← hi32]; rfl, hK', hM'.sel [] rfl⟩
end Go.Proofs.YthfhhkanpnemcaaGreatDoor
namespace Go.SL
open Go.RowKit
section
variable {P : Program} {n : Nat} {W : Nat → Prop} {w0 : World} {l : List (Nat × Value)} {m : List Res} {o : Oper}
theorem run_loadBytes {w : World} {b : Nat} : ∀ (v : List UInt8) (off : Nat) (acc : List UInt8), (∀ j, (h : j < v.length) → w.cell? ⟨b, off + j, none⟩ = some (.int .u8 v[j].toNat)) → (Extern.Bytes.loadBytes ⟨b, off, none⟩ v.length ⟨acc.toArray⟩).run P w = .ok ⟨(acc ++ v).toArray⟩ w
 | [], off, acc, _ => by simp [Extern.Bytes.loadBytes]
 | c :: r, off, acc, h => by
  have h0 := h 0 (by simp)
  simp only [List.getElem_cons_zero, Nat.add_zero] at h0
  have hp : (⟨acc.toArray⟩ : ByteArray).push c = ⟨(acc ++ [c]).toArray⟩ := by simp [ByteArray.push]
  have ih := run_loadBytes (w := w) (b := b) r (off + 1) (acc ++ [c]) (fun j hj => by
   have := h (j + 1) (by simp; omega)
   rw [show off + (j + 1) = off + 1 + j by omega] at this
   simpa using this)
  simp only [List.length_cons, Extern.Bytes.loadBytes, Sem.run_bind, run_load, h0, Result.andThen_ok]
  simp [Addr.add, hp, ih]
theorem run_bytesOf {w : World} {a : Option Addr} {k c : Nat} {v : List UInt8} (h : RC 1 w a k (bytesV v)) : (Extern.Bytes.bytesOf (.slice a k c)).run P w = .ok ⟨v.toArray⟩ w := by
 have hkv : v.length = k := by have := h.1; rw [bytesV_length] at this; omega
 subst hkv
 cases a with
 | none =>
  have h0 : v.length = 0 := by
   rcases h.2.2 with h0 | ⟨b, off, he, _⟩
   ·
    exact h0
   ·
    cases he
  have hv : v = [] := List.eq_nil_of_length_eq_zero h0
  subst hv
  simp [Extern.Bytes.bytesOf]; rfl
 | some q =>
  rcases h.2.2 with h0 | ⟨b, off, he, _, hc⟩
  ·
   have hv : v = [] := List.eq_nil_of_length_eq_zero h0
   subst hv
   simp [Extern.Bytes.bytesOf, Extern.Bytes.loadBytes]; rfl
  ·
   simp only [Option.some.injEq] at he
   subst he
   have := run_loadBytes (P := P) (w := w) (b := b) v off [] (fun j hj => hc j _ (by simp [bytesV, hj]))
   simp only [List.nil_append] at this
   exact this
theorem Pure.cmpBytes {x y : Operand} {a a' : Option Addr} {k c k' c' : Nat} {u v : List UInt8} {f : FuncId} {fn : Func} {ts : Array TypeId} (ho : o.op = .call { callee := .value (.func f), args := #[x, y], argTypes := ts }) (hx : ev l x = some (.slice a k c)) (hy : ev l y = some (.slice a' k' c')) (hf : P.funcs[f]? = some fn) (hname : (fn.name == "runtime.NumGoroutine") = false)
  (hb : fn.body.isNone = true) (hn : Extern.findNext fn = none) (he : Extern.find fn = some Extern.BytealgCompare.compare)
  (hr : ∀ w, Mem W w0 m w → Keeps W w0 w → RC 1 w a k (bytesV u)) (hr' : ∀ w, Mem W w0 m w → Keeps W w0 w → RC 1 w a' k' (bytesV v)) : Pure P n W w0 l m o (.int .i64 (Lib.compareBytes u v)) :=
 fun ac w st => by
  have h1 : (Extern.BytealgCompare.compare #[.slice a k c, .slice a' k' c']).run P w = .ok (.int .i64 (Lib.compareBytes u v)) w := by
   change Sem.run P (do pure (goInt (Extern.BytealgCompare.cmp (← Extern.Bytes.bytesOf (.slice a k c)) (← Extern.Bytes.bytesOf (.slice a' k' c'))))) w = _
   simp only [Sem.run_bind, run_bytesOf (hr w st.mem st.keeps), run_bytesOf (hr' w st.mem st.keeps), Result.andThen_ok, Sem.run_pure]
   rw [Lib.cmp_eq]
   rfl
  have := run_callFunc_extern hf hname hb hn he #[.slice a k c, .slice a' k' c'] w
  rw [h1] at this
  have h2 : ac.eval (.func f) = .func (.func f) #[] #[] := rfl
  simp only [Result.andThen_ok] at this
  simp [execOp, ho, resolve, h2, Deferred.ofValue, invoke, st.has.ev hx, st.has.ev hy, this]
/-- the bytes of an array among those of a row -/
theorem RC.elem {k : Nat} {w : World} {b off len : Nat} {xs : List (B k)} (h : RC k w (some ⟨b, off, none⟩) len (idsV xs)) {i : Nat} {c : B k} (hi : xs[i]? = some c) (hk0 : 0 < k) (hk : k ≤ maxLen) : RC 1 w (some ⟨b, off + i * k, none⟩) k (bytesV c.l) := by
 refine ⟨by rw [bytesV_length, c.h]; omega, hk, .inr ?_⟩
 have hlt : i < xs.length := (List.getElem?_eq_some_iff.1 hi).1
 rcases h.2.2 with h0 | ⟨b', off', he, hb, hc⟩
 ·
  have := h.1
  rw [idsV_len, h0, Nat.zero_mul] at this
  rcases Nat.mul_eq_zero.1 this with h | h <;> omega
 ·
  simp only [Option.some.injEq, Addr.mk.injEq, and_true] at he
  obtain ⟨rfl, rfl⟩ := he
  refine ⟨b, off + i * k, rfl, hb, fun j x hx => ?_⟩
  rw [Nat.add_assoc]
  exact hc _ _ (idsV_at xs i c hi j x (by rw [flat_seg]; simpa [bytesV, Extern.Stop.cell] using hx))
end
end Go.SL
namespace Go.Proofs.YthfhhkanpnemcaaGreatDoor
open Go.SL Go.RowKit IntWalk
set_option linter.unusedVariables false
set_option maxRecDepth 100000
set_option linter.unusedSimpArgs false
set_option maxHeartbeats 400000

theorem bcompare_c (u v : List UInt8) (a a' : Option Addr) (k c k' c' : Nat) (w : World) (hR : RC 1 w a k (bytesV u)) (hR' : RC 1 w a' k' (bytesV v)) :
  Calls Tryz.prog 181 [.slice a k c, .slice a' k' c'].toArray w fun e w' => e = .returned (.int .i64 (Lib.compareBytes u v)) ∧ Keeps none1 w w' := by
 refine aJ (n := 8) (W := SL.none1) (m := []) Tryz.func181 O Tryz.ntmps181 O (aO _ _ _) ?_
 simp only [SL.enum, Nat.reduceAdd]
 refine ah fun K1 hK1 => aj (aa O O O (ak O O) ?_)
 refine ai (ae ?_)
 refine hK1 _ _ (ah fun K2 hK2 => ?_)
 refine aj (aa O O O (af O O) ?_)
 refine aa O O O (af O O) (aa O O O (SL.Pure.cmpBytes (u := u) (v := v) O O O (f := 185) (fn := Tryz.f185) (by kernel_rfl) (by kernel_rfl) (by kernel_rfl) (by kernel_rfl) (by kernel_rfl) (fun w hM hK => hR.keep hK) (fun w hM hK => hR'.keep hK)) ?_)
 refine aa O O O (ak O O) (ai ?_)
 refine ae (hK2 _ _ ?_)
 refine aw av (ar O (.cons (.tmp O) .nil) O) (fun w' hM' hK' => ?_)
 exact ⟨rfl, hK'⟩

/-- strictly ascending -/
def incr : List (B 16) → Bool
 | a :: b :: r => decide (Lib.compareBytes a.l b.l < 0) && incr (b :: r)
 | _ => true
theorem incr_step (xs : List (B 16)) {i : Nat} (h0 : 1 ≤ i) (h : i < xs.length) : incr (xs.drop (i - 1)) = (decide (Lib.compareBytes xs[i - 1].l xs[i].l < 0) && incr (xs.drop i)) := by
 rw [List.drop_eq_getElem_cons (show i - 1 < xs.length by omega)]
 have e : i - 1 + 1 = i := by omega
 rw [e, List.drop_eq_getElem_cons h]
 rfl
theorem incr_short : ∀ (xs : List (B 16)), xs.length ≤ 1 → incr xs = true
 | [], _ => rfl
 | [_], _ => rfl
 | _ :: _ :: _, h => by simp at h
def modE (xs : List (B 16)) : Int := if 8 < xs.length then 9 else if incr xs then 0 else 30

theorem checkModerators_c (xs : List (B 16)) (a : Option Addr) (len cap : Nat) (hcap : len ≤ cap) (w : World) (hR : RC 16 w a len (idsV xs)) :
  Calls Tryz.prog 165 [.slice a len cap].toArray w fun e w' => e = .returned (.int .i64 (modE xs)) ∧ Keeps none1 w w' := by
 have hRR := hR
 obtain ⟨h1, h2, h3⟩ := hR
 have hl : xs.length = len := by rw [idsV_len] at h1; omega
 subst hl
 unfold maxLen at h2
 refine aJ (n := 24) (W := SL.none1) (m := []) Tryz.func165 O Tryz.ntmps165 O (aO _ _ _) ?_
 simp only [SL.enum, Nat.reduceAdd]
 refine ah fun K1 hK1 => aj (aa O O O (ak O O) ?_)
 refine ai (ae ?_)
 refine hK1 _ _ (ah fun K2 hK2 => ?_)
 refine ah fun K3 hK3 => aj (aa O O O (af O O) ?_)
 refine aa O O O (bw O O O Tryz.underlying118) (aa O O O (bH O O O) ?_)
 refine ai (ae ?_)
 refine hK3 _ _ (aH O (fun hc6 => ?_) (fun hc6 => ?_))
 ·
  have h8 : 8 < xs.length := by simp at hc6; omega
  refine ah fun K4 hK4 => aj (aa O O O (ak O O) ?_)
  refine ai (ae ?_)
  refine hK4 _ _ (aw (aB av) (ar O (.cons (.tmp O) .nil) O) (fun w' hM' hK' => ?_))
  exact ⟨by rw [modE, if_pos h8]; rfl, hK'⟩
 ·
  have h8 : ¬ 8 < xs.length := by simp at hc6; omega
  refine aC (ae ?_)
  refine hK2 _ _ (ah fun K5 hK5 => ?_)
  refine ah fun K6 hK6 => aj (aa O O O (ak O O) ?_)
  refine ai (ae ?_)
  refine hK6 _ _ (aK ?_)
  refine bu (X := Nat) (φ := fun i => 1 ≤ i ∧ incr (xs.drop (i - 1)) = incr xs) (L := fun i => [(0, .slice a xs.length cap), (3, .int .i64 i)]) (M := fun i => []) (μ := fun i => xs.length - i) ?_ ?_
  ·
   exact fun _ _ st => ⟨1, ⟨Nat.le_refl _, rfl⟩, st.to [] ⟨rfl, rfl, trivial⟩ O rfl⟩
  ·
   intro i ⟨hi, hin⟩
   try dsimp only
   refine ah fun K7 hK7 => ah fun K8 hK8 => aj (aa O O O (af O O) ?_)
   refine aa O O O (af O O) (aa O O O (bw O O O Tryz.underlying118) ?_)
   refine aa O O O (aT O O O) (ai ?_)
   refine ae (hK8 _ _ ?_)
   refine aH O (fun hc10 => ?_) (fun hc10 => ?_)
   ·
    have hlt : i < xs.length := by simp at hc10; omega
    rcases h3 with h3 | ⟨b, off, rfl, hb, hc⟩
    ·
     omega
    rw [incr_step xs hi hlt] at hin
    refine aC (ae ?_)
    refine hK7 _ _ (ah fun K9 hK9 => ?_)
    refine aK (ah fun K10 hK10 => ?_)
    refine bX 9 mixed (by kernel_rfl) O O (fun wd6 => ?_)
    refine aD O O O (af O O) (aD O O O (af O O) ?_)
    refine aD O O O (bU O O O O (by omega) (by omega)) ?_
    refine aD O O O (bx (sz := 16) (off' := off + (i - 1) * 16) O O O Tryz.underlying118 (by kernel_rfl) (by omega) (by omega) (by omega)) ?_
    refine aD O O O (SL.Pure.sliceArrO (sz := 1) O O Tryz.underlying33 (by kernel_rfl) (by decide)) ?_
    refine aD O O O (af O O) (aD O O O (af O O) ?_)
    refine aD O O O (bx (sz := 16) (off' := off + i * 16) O O O Tryz.underlying118 (by kernel_rfl) (by omega) (by omega) (by omega)) ?_
    refine aD O O O (SL.Pure.sliceArrO (sz := 1) O O Tryz.underlying33 (by kernel_rfl) (by decide)) ?_
    refine bV (am O (aN O O (by kernel_rfl) O O (fun w hM hK => bcompare_c xs[i - 1].l xs[i].l _ _ _ _ _ _ w ((hRR.keep hK).elem (i := i - 1) (List.getElem?_eq_getElem (by omega)) (by decide) (by decide)) ((hRR.keep hK).elem (i := i) (List.getElem?_eq_getElem hlt) (by decide) (by decide)))) ?_)
    intro _ _
    try simp only [setN, putD, selM, nth, cw, cx]
    refine aa O O O (bB O O O) (ai ?_)
    refine ae (hK10 _ _ ?_)
    refine aH O (fun hc23 => ?_) (fun hc23 => ?_)
    ·
     have hcmp : ¬ Lib.compareBytes xs[i - 1].l xs[i].l < 0 := by simp at hc23; omega
     rw [decide_eq_false hcmp, Bool.false_and] at hin
     refine ah fun K11 hK11 => aj (aa O O O (ak O O) ?_)
     refine ai (ae ?_)
     refine hK11 _ _ (aw (aP (aB (aB (aP (aB av))))) (ar O (.cons (.tmp O) .nil) O) (fun w' hM' hK' => ?_))
     exact ⟨by rw [modE, if_neg h8, ← hin]; rfl, hK'⟩
    ·
     have hcmp : Lib.compareBytes xs[i - 1].l xs[i].l < 0 := by simp at hc23; omega
     rw [decide_eq_true hcmp, Bool.true_and] at hin
     refine aC (aQ ?_)
     refine ae (hK9 _ _ ?_)
     refine aj (aa O O O (af O O) ?_)
     refine aa O O O (aL O O O O (by omega) (by omega)) ?_
     refine aa O O O (ak O O) (ai ?_)
     refine ae ?_
     exact bd (i + 1) [] ⟨by omega, hin⟩ (show xs.length - (i + 1) < xs.length - i by omega) ⟨rfl, rfl, trivial⟩ O rfl
   ·
    have hge : xs.length ≤ i := by simp at hc10; omega
    rw [incr_short _ (by rw [List.length_drop]; omega)] at hin
    refine aU (aI ?_)
    refine aI (aV ?_)
    refine ae (hK5 _ _ ?_)
    refine ah fun K12 hK12 => aj (aa O O O (ak O O) ?_)
    refine ai (ae ?_)
    refine hK12 _ _ (aw av (ar O (.cons (.tmp O) .nil) O) (fun w' hM' hK' => ?_))
    exact ⟨by rw [modE, if_neg h8, ← hin]; rfl, hK'⟩
end Go.Proofs.YthfhhkanpnemcaaGreatDoor
namespace Go.SL
open Go.RowKit
section
variable {P : Program} {n : Nat} {W : Nat → Prop} {w0 : World} {l : List (Nat × Value)} {m : List Res} {o : Oper} {Q : Exit → Act → World → Prop}
/-- a whole array is overwritten with bytes -/
theorem Eff.copyB {x y : Operand} {b N c c' d : Nat} {v u : B N} {a' : Option Addr} {dT sT elem T : TypeId} (i : Nat) (ho : o.op = .call { callee := .builtin .copy, args := #[x, y], argTypes := #[dT, sT] }) (hx : ev l x = some (.slice (some ⟨b, 0, none⟩) N c)) (hy : ev l y = some (.slice a' N c'))
  (hm : nth m i = some (.blk b (.cells (flat [v.seg]) T (0, 0)))) (hu : P.underlying dT = some (.slice elem)) (hs : csz P elem = some 1) (hr : ∀ w, Mem W w0 m w → Keeps W w0 w → RC 1 w a' N (bytesV u.l)) (hd : o.dst = some d) (hdn : Nat.ble (d + 1) n = true) (hN : 0 < N) :
  Eff P n W w0 l m o Q Unit (fun _ => True) (fun _ => (d, .int .i64 N) :: l) (fun _ => setN m i (.blk b (.cells (flat [u.seg]) T (0, 0)))) := by
 intro a w K st h
 have hb := st.mem.blk hm
 obtain ⟨h1, h2, h3⟩ := hr w st.mem st.keeps
 rcases h3 with h3 | ⟨rb, roff, rfl, hrb, hrc⟩
 ·
  omega
 have hfs : (flat [v.seg]).size = N := by rw [flat_size]; simp [width, B.seg, Seg.n]
 have hul : (bytesV u.l).length = N := by rw [bytesV_length, u.h]
 have hcp := run_copy_row (P := P) w dT sT o.type elem b 0 N c ⟨rb, roff, none⟩ N c' (flat [v.seg]) T (bytesV u.l) hu hs hb (by rw [hul]; simp) (fun j x hx => by rw [Addr.add_mid]; exact hrc j x hx) (by rw [hul, hfs]; omega) (by intro z hz; simp only [bytesV, List.mem_map] at hz; obtain ⟨q, _, rfl⟩ := hz; rfl)
 have hfl : ((flat [v.seg]).toList.take 0 ++ bytesV u.l ++ (flat [v.seg]).toList.drop (0 + (bytesV u.l).length)).toArray = flat [u.seg] := by
  rw [hul, List.drop_of_length_le (by rw [Array.length_toList, hfs]; omega)]
  simp [flat, B.seg, Seg.cs, byteA, bytesV]
 rw [hfl, hul] at hcp
 have hr : (execOp a.eval o).run P w = .ok (.value (.int .i64 N)) (w.setRow b (flat [u.seg])) := by
  simp [execOp, ho, resolve, invoke, builtin, st.has.ev hx, st.has.ev hy, hcp, goInt]
 unfold Oper.wp
 rw [hr, Oper.upon_value, hd]
 refine h () trivial _ _ ⟨st.has.put _ hdn, ?_, ?_⟩
 ·
  exact st.mem.set hm (setRow_heap w b _ _ T _ hb) (by simp [World.setRow]) (fun k hk _ => setRow_other w b k _ hk)
 ·
  rw [nth_eq] at hm
  exact st.keeps.write (st.mem.may _ (List.mem_of_getElem? hm) b rfl) rfl rfl rfl (by simp [World.setRow]) (fun k hk _ => setRow_other w b k _ hk)
end
end Go.SL
namespace Go.Proofs.YthfhhkanpnemcaaGreatDoor
open Go.SL Go.RowKit IntWalk
set_option linter.unusedVariables false
set_option maxRecDepth 100000
set_option linter.unusedSimpArgs false
set_option maxHeartbeats 400000

theorem gD {s : List UInt8} {i : Nat} (h : i < s.length) : s[i]? = some (s.getD i 0) := by rw [List.getElem?_eq_getElem h]; simp [List.getD, h]
theorem hexI (c : UInt8) : Lib.indexByte HX c = digM c := by
 have h : ∀ k, k < 256 → Lib.indexByte HX (UInt8.ofNat k) = digM (UInt8.ofNat k) := by decide
 have := h c.toNat c.toNat_lt
 rwa [UInt8.ofNat_toNat] at this
theorem indexByte_c (s : List UInt8) (c : UInt8) (w : World) : Calls Tryz.prog 161 [str s, .int .u8 c.toNat].toArray w fun e w' => e = .returned (.int .i64 (Lib.indexByte s c)) ∧ Keeps none1 w w' := by
 refine (Tryz.strings_IndexByte ⟨s.toArray⟩ c.toNat w).mono fun e w' ⟨he, hw⟩ => ⟨?_, hw ▸ Keeps.refl _ _⟩
 rw [he]
 simp
theorem unhex1_c (c : UInt8) (w : World) : Calls Tryz.prog 178 [.int .u8 c.toNat].toArray w fun e w' => e = .returned (.int .i64 (digM c)) ∧ Keeps none1 w w' := by
 refine aJ (n := 5) (W := SL.none1) (m := []) Tryz.func178 O Tryz.ntmps178 O (aO _ _ _) ?_
 simp only [SL.enum, Nat.reduceAdd]
 refine ah fun K1 hK1 => aj (aa O O O (ak O O) ?_)
 refine ai (ae ?_)
 refine hK1 _ _ (ah fun K2 hK2 => ?_)
 refine aj (aa O O O (af O O) ?_)
 refine am O (aN O O (by kernel_rfl) O O (fun w hM hK => indexByte_c HX c w)) ?_
 intro _ _
 try simp only [setN, putD, selM, nth, cw, cx]
 refine aa O O O (ak O O) (ai ?_)
 refine ae (hK2 _ _ ?_)
 refine aw av (ar O (.cons (.tmp O) .nil) O) (fun w' hM' hK' => ?_)
 exact ⟨by rw [hexI]; rfl, hK'⟩

def uh2 (a b : UInt8) : UInt8 := UInt8.ofNat (16 * (digM a).toNat + (digM b).toNat)
def uhx : List UInt8 → List UInt8
 | a :: b :: r => uh2 a b :: uhx r
 | _ => []
theorem uhx_append : ∀ (x y : List UInt8), x.length % 2 = 0 → uhx (x ++ y) = uhx x ++ uhx y
 | [], y, _ => rfl
 | [_], y, h => by simp at h
 | a :: b :: r, y, h => by
  simp only [List.cons_append, uhx]
  rw [uhx_append r y (by simp at h; omega)]
theorem uhx_len : ∀ (x : List UInt8), (uhx x).length = x.length / 2
 | [] => rfl
 | [_] => by simp [uhx]
 | a :: b :: r => by simp only [uhx, List.length_cons, uhx_len r]; omega
theorem uhx_step (s : List UInt8) (j : Nat) (h : 2 * j + 1 < s.length) : uhx (s.take (2 * j)) ++ [uh2 (s.getD (2 * j) 0) (s.getD (2 * j + 1) 0)] = uhx (s.take (2 * (j + 1))) := by
 have e : s.take (2 * (j + 1)) = s.take (2 * j) ++ [s.getD (2 * j) 0, s.getD (2 * j + 1) 0] := by
  rw [show 2 * (j + 1) = 2 * j + 1 + 1 by omega, List.take_succ_eq_append_getElem h, List.take_succ_eq_append_getElem (show 2 * j < s.length by omega), List.append_assoc]
  simp [List.getD, show 2 * j < s.length by omega, h]
 rw [e, uhx_append _ _ (by rw [List.length_take]; omega)]
 rfl
theorem or4 (a b : Int) (ha : 0 ≤ a) (ha2 : a < 16) (hb : 0 ≤ b) (hb2 : b < 16) : IntKind.i64.wrap (BitVec.ofInt IntKind.i64.bits (a * 16) ||| BitVec.ofInt IntKind.i64.bits b).toNat = a * 16 + b := by
 obtain ⟨a, rfl⟩ := Int.eq_ofNat_of_zero_le ha
 obtain ⟨b, rfl⟩ := Int.eq_ofNat_of_zero_le hb
 have e : (BitVec.ofInt 64 ((a : Int) * 16) ||| BitVec.ofInt 64 (b : Int)).toNat = a * 2 ^ 4 + b := by
  rw [BitVec.toNat_or, BitVec.toNat_ofInt, BitVec.toNat_ofInt]
  have h1 : (((a : Int) * 16) % ((2 ^ 64 : Nat) : Int)).toNat = a * 2 ^ 4 := by omega
  have h2 : ((b : Int) % ((2 ^ 64 : Nat) : Int)).toNat = b := by omega
  rw [h1, h2, Nat.mul_comm a, Nat.two_pow_add_eq_or_of_lt (show b < 2 ^ 4 by omega)]
 show IntKind.i64.wrap ((BitVec.ofInt 64 ((a : Int) * 16) ||| BitVec.ofInt 64 (b : Int)).toNat : Int) = _
 rw [e, IntKind.wrap_i64]
 omega

abbrev allHex (s : List UInt8) : Prop := ∀ i, i < s.length → 0 ≤ digM (s.getD i 0)
theorem unhex_c (s : List UInt8) (h2 : s.length % 2 = 0) (hl : s.length ≤ 1000) (hh : allHex s) (w : World) :
  Calls Tryz.prog 162 [str s].toArray w fun e w' => ∃ x : Option Addr × Nat, s.length / 2 ≤ x.2 ∧ e = .returned (.tuple #[.slice x.1 (s.length / 2) x.2, .int .i64 0]) ∧ Post w (blocksOf []) [.row (.slice x.1 (s.length / 2) x.2) 5 1 (s.length / 2) (bytesV (uhx s))] w' := by
 refine aJ (n := 45) (W := (blocksOf [])) (m := []) Tryz.func162 O Tryz.ntmps162 O (aO _ _ _) ?_
 simp only [SL.enum, Nat.reduceAdd]
 refine ah fun K1 hK1 => aj (aa O O O (ak O O) ?_)
 refine aa O O O (ak O O) (ai ?_)
 refine ae (hK1 _ _ ?_)
 refine ah fun K2 hK2 => aj (aa O O O (ak O O) ?_)
 refine ai (SL.Ok.nilRow 5 1 ?_)
 refine ae (hK2 _ _ ?_)
 refine ah fun K3 hK3 => aj (aa O O O (ak O O) ?_)
 refine ai (ae ?_)
 refine hK3 _ _ (ah fun K4 hK4 => ?_)
 refine ah fun K5 hK5 => aj (aa O O O (af O O) ?_)
 refine aa O O O (bf O O O Tryz.underlying9) (aa O O O (SL.Pure.remI O O O (by omega) (by omega) (by omega)) ?_)
 refine aa O O O (bl O O O) (ai ?_)
 refine ae (hK5 _ _ ?_)
 refine cf O ((by simp; omega)) ?_
 refine aC (ae ?_)
 refine hK4 _ _ (ah fun K6 hK6 => ?_)
 refine ah fun K7 hK7 => aj (aa O O O (ak O O) ?_)
 refine ai (ae ?_)
 refine hK7 _ _ (aK ?_)
 refine bu (X := (Nat × Value)) (φ := fun X => 2 * X.1 ≤ s.length) (L := fun X => [(0, str s), (4, X.2), (5, .func (.func 178) #[] #[]), (6, .int .i64 (2 * X.1 : Nat))]) (M := fun X => [.row X.2 5 1 X.1 (bytesV (uhx (s.take (2 * X.1))))]) (μ := fun X => s.length - X.1) ?_ ?_
 ·
  exact fun _ _ st => ⟨(0, .slice none 0 0), Nat.zero_le _, st.to [0] ⟨rfl, rfl, rfl, rfl, trivial⟩ O rfl⟩
 ·
  intro ⟨j, g⟩ hj
  try dsimp only
  dsimp only at hj
  refine ah fun K8 hK8 => ah fun K9 hK9 => aj (aa O O O (af O O) ?_)
  refine aa O O O (af O O) (aa O O O (bf O O O Tryz.underlying9) ?_)
  refine aa O O O (aT O O O) (ai ?_)
  refine ae (hK9 _ _ ?_)
  refine aH O (fun hc16 => ?_) (fun hc16 => ?_)
  ·
   have hlt : 2 * j + 1 < s.length := by simp at hc16; omega
   have e0 : s[((2 * j : Nat) : Int).toNat]? = some (s.getD (2 * j) 0) := by rw [Int.toNat_natCast]; exact gD (by omega)
   have e1 : s[(((2 * j : Nat) : Int) + 1).toNat]? = some (s.getD (2 * j + 1) 0) := by rw [show (((2 * j : Nat) : Int) + 1).toNat = 2 * j + 1 by omega]; exact gD hlt
   have d0 := digM_lt (s.getD (2 * j) 0)
   have d1 := digM_lt (s.getD (2 * j + 1) 0)
   have z0 := hh (2 * j) (by omega)
   have z1 := hh (2 * j + 1) hlt
   refine aC (ae ?_)
   refine hK8 _ _ (ah fun K10 hK10 => ?_)
   refine aK (ah fun K11 hK11 => ?_)
   refine ck [0] mixed O O ?_
   simp only [List.replicate, List.length_cons, List.length_nil, Nat.reduceAdd, SL.selM, SL.nth]
   refine aG 0 O O O O (by kernel_rfl) (by kernel_rfl) (by kernel_rfl) O (fun _ _ _ h => h) [0] O O (af O O) ?_
   refine aG 1 O O O O (by kernel_rfl) (by kernel_rfl) (by kernel_rfl) O (fun _ _ _ h => h) [0] O O (af O O) ?_
   refine aG 2 O O O O (by kernel_rfl) (by kernel_rfl) (by kernel_rfl) O (fun _ _ _ h => h) [0] O O (af O O) ?_
   refine aG 3 O O O O (by kernel_rfl) (by kernel_rfl) (by kernel_rfl) O (fun _ _ _ h => h) [0] O O (bQ O O O Tryz.underlying9 (by omega) (by assumption)) ?_
   refine aG 5 O O O O (by kernel_rfl) (by kernel_rfl) (by kernel_rfl) O (fun _ _ _ h => h) [0] O O (af O O) ?_
   refine aG 6 O O O O (by kernel_rfl) (by kernel_rfl) (by kernel_rfl) O (fun _ _ _ h => h) [0] O O (af O O) ?_
   refine aG 7 O O O O (by kernel_rfl) (by kernel_rfl) (by kernel_rfl) O (fun _ _ _ h => h) [0] O O (af O O) ?_
   refine aG 8 O O O O (by kernel_rfl) (by kernel_rfl) (by kernel_rfl) O (fun _ _ _ h => h) [0] O O (aL O O O O (by omega) (by omega)) ?_
   refine aG 9 O O O O (by kernel_rfl) (by kernel_rfl) (by kernel_rfl) O (fun _ _ _ h => h) [0] O O (bQ O O O Tryz.underlying9 (by omega) (by assumption)) ?_
   refine aY 4 O O (by kernel_rfl) O [0] (fun _ => rfl) O (bJ O (aN O O (by kernel_rfl) O O (fun w hM hK => unhex1_c (s.getD (2 * j) 0) w))) ?_
   intro _ _
   try simp only [setN, putD, selM, nth, cw, cx]
   refine aY 10 O O (by kernel_rfl) O [0] (fun _ => rfl) O (bJ O (aN O O (by kernel_rfl) O O (fun w hM hK => unhex1_c (s.getD (2 * j + 1) 0) w))) ?_
   intro _ _
   try simp only [setN, putD, selM, nth, cw, cx]
   refine aG 11 O O O O (by kernel_rfl) (by kernel_rfl) (by kernel_rfl) O (fun _ _ _ h => h) [0] O O (ak O O) ?_
   refine aG 12 O O O O (by kernel_rfl) (by kernel_rfl) (by kernel_rfl) O (fun _ _ _ h => h) [0] O O (ak O O) ?_
   refine bN (by kernel_rfl) ?_
   refine ae (hK11 _ _ ?_)
   refine ah fun K12 hK12 => ah fun K13 hK13 => aj (aa O O O (af O O) ?_)
   refine aa O O O (aT O O O) (aa O O O (af O O) ?_)
   refine SL.Ok.setF (d := 32) O ((by simpa [-List.getD_eq_getElem?_getD] using z0)) ?_
   refine aq O O O O O O O (af O O) (aq O O O O O O O (aT O O O) ?_)
   refine aa O O O (aE O O O) (ai ?_)
   refine ae (hK13 _ _ ?_)
   refine cf O ((by simpa [-List.getD_eq_getElem?_getD] using z1)) ?_
   refine aC (ae ?_)
   refine hK12 _ _ (aj ?_)
   refine aa O O O (af O O) (aa O O O (af O O) ?_)
   refine aa O O O (cv (r := digM (s.getD (2 * j) 0) * 16) O O O (by decide) (by rw [show (2 : Int) ^ min (Int.toNat 4) IntKind.i64.bits = 16 from rfl, IntKind.wrap_i64]; omega)) ?_
   refine aa O O O (af O O) (aa O O O (SL.Pure.or (r := digM (s.getD (2 * j) 0) * 16 + digM (s.getD (2 * j + 1) 0)) O O O (or4 _ _ z0 d0.2 z1 d1.2)) ?_)
   refine aa O O O (bT (r := ((uh2 (s.getD (2 * j) 0) (s.getD (2 * j + 1) 0)).toNat : Int)) O O (by kernel_rfl) Tryz.underlying5 (by rw [uh2, IntKind.wrap_u8, UInt8.toNat_ofNat']; omega)) ?_
   refine am O (by exact bW #[.int .u8 0] [.int .u8 (uh2 (s.getD (2 * j) 0) (s.getD (2 * j + 1) 0)).toNat] O O Tryz.underlying52 (by kernel_rfl) (by kernel_rfl) O (by decide) O O) ?_
   intro g42 _
   try simp only [setN, putD, selM, nth, cw, cx]
   refine am O (by exact bF (by' := 1) 1 [] O O O O Tryz.underlying52 Tryz.underlying52 (by kernel_rfl) (fun w' hM _ => bK (i := 0) O hM) (SL.bytesV_one [uh2 (s.getD (2 * j) 0) (s.getD (2 * j + 1) 0)]) O O O O (by omega) (by omega)) ?_
   intro v' hv'
   try simp only [setN, putD, selM, nth, cw, cx]
   have hpx : bytesV (uhx (s.take (2 * j))) ++ [Value.int IntKind.u8 ((uh2 (s.getD (2 * j) 0) (s.getD (2 * j + 1) 0)).toNat : Int)] = bytesV (uhx (s.take (2 * (j + 1)))) := by rw [← uhx_step s j hlt, bytesV_append]; rfl
   simp only [hpx]
   refine aa O O O (ak O O) (ai ?_)
   refine aQ (ae ?_)
   refine hK10 _ _ (aj ?_)
   refine aa O O O (af O O) (aa O O O (aL O O O O (by omega) (by omega)) ?_)
   refine aa O O O (ak O O) (ai ?_)
   refine ae ?_
   exact bd (j + 1, v') [0] (show 2 * (j + 1) ≤ s.length by omega) (show s.length - (j + 1) < s.length - j by omega) ⟨rfl, rfl, rfl, rfl, trivial⟩ O rfl
  ·
   have hge : 2 * j = s.length := by simp at hc16; omega
   have hje : j = s.length / 2 := by omega
   subst hje
   have htk : s.take (2 * (s.length / 2)) = s := List.take_of_length_le (by omega)
   simp only [htk]
   refine aU (aI ?_)
   refine aI (aV ?_)
   refine ae (hK6 _ _ ?_)
   refine ah fun K14 hK14 => aj (aa O O O (af O O) ?_)
   refine aa O O O (ak O O) (aa O O O (ak O O) ?_)
   refine ai (ae ?_)
   refine hK14 _ _ (SL.Ok.rowSlice 0 O ?_)
   rintro ⟨a', c', rfl, hc'⟩
   refine aw av (ar O (.cons (.tmp O) (.cons (.tmp O) .nil)) O) (fun w' hM' hK' => ?_)
   exact ⟨(a', c'), by omega, rfl, hK', hM'⟩
end Go.Proofs.YthfhhkanpnemcaaGreatDoor
namespace Go.SL
def B.of (n : Nat) (l : List UInt8) : B n := if h : l.length = n then ⟨l, h⟩ else B.zero n
theorem B.of_l {n : Nat} {l : List UInt8} (h : l.length = n) : (B.of n l).l = l := by rw [B.of, dif_pos h]
end Go.SL
namespace Go.Proofs.YthfhhkanpnemcaaGreatDoor
open Go.SL Go.RowKit IntWalk
set_option linter.unusedVariables false
set_option maxRecDepth 100000
set_option linter.unusedSimpArgs false
set_option maxHeartbeats 400000

def ZF : List UInt8 := idt (B.zero 32).l
theorem ZF_len : ZF.length = 71 := by decide
/-- what may stand at a place of an identity's text -/
def midC (i : Nat) (c : UInt8) : Bool := if 1 ≤ i ∧ i < 65 then decide (0 ≤ digM c) else decide (c = ZF.getD i 0)
theorem midC_dig {i : Nat} {c : UInt8} (h1 : 1 ≤ i) (h2 : i < 65) : midC i c = decide (0 ≤ digM c) := if_pos ⟨h1, h2⟩
theorem midC_lit {i : Nat} {c : UInt8} (h : ¬ (1 ≤ i ∧ i < 65)) : midC i c = decide (c = ZF.getD i 0) := if_neg h
def midOk (s : List UInt8) : Nat → Bool
 | 0 => true
 | i + 1 => midOk s i && midC i (s.getD i 0)
theorem midOk_le (s : List UInt8) {i : Nat} : ∀ {j : Nat}, i ≤ j → midOk s j = true → midOk s i = true
 | 0, h, h2 => by rw [show i = 0 by omega]; rfl
 | j + 1, h, h2 => by
  by_cases e : i = j + 1
  ·
   rw [e]; exact h2
  ·
   rw [midOk, Bool.and_eq_true] at h2
   exact midOk_le s (by omega) h2.1
theorem midOk_at (s : List UInt8) {i j : Nat} (h : i < j) (h2 : midOk s j = true) : midC i (s.getD i 0) = true := by
 have := midOk_le s (show i + 1 ≤ j by omega) h2
 rw [midOk, Bool.and_eq_true] at this
 exact this.2
def midE (s : List UInt8) : Int := if midOk s (min s.length 71) = false then 6 else if s.length < 71 then 4 else if 71 < s.length then 5 else 0
def midV (s : List UInt8) : B 32 := if midE s = 0 then B.of 32 (uhx ((s.take 65).drop 1)) else B.zero 32

abbrev idO (b : B 32) : Obj := .cells (flat [b.seg]) 26 (0, 0)
theorem midParse_c (s : List UInt8) (hs : s.length ≤ 100000000) (w : World) : Calls Tryz.prog 141 [str s].toArray w fun e w' => ∃ at_ : Int, True ∧ e = .returned (.tuple #[.agg (flat [(midV s).seg]), .int .i64 at_, .int .i64 (midE s)]) ∧ Post w (blocksOf []) [] w' := by
 refine aJ (n := 70) (W := (blocksOf [])) (m := []) Tryz.func141 O Tryz.ntmps141 O (aO _ _ _) ?_
 simp only [SL.enum, Nat.reduceAdd]
 refine ah fun K1 hK1 => aj (am O (aX [(B.zero 32).seg] O O O (by kernel_rfl)) ?_)
 intro b2 _
 try simp only [setN, putD, selM, nth, cw, cx]
 refine aa O O O (ak O O) (aa O O O (ak O O) ?_)
 refine ai (ae ?_)
 refine hK1 _ _ (ah fun K2 hK2 => ?_)
 refine aj (aa O O O (bg [(0, 1), (1, 1), (2, 1), (3, 1), (4, 1), (5, 1), (6, 1), (7, 1), (8, 1), (9, 1), (10, 1), (11, 1), (12, 1), (13, 1), (14, 1), (15, 1), (16, 1), (17, 1), (18, 1), (19, 1), (20, 1), (21, 1), (22, 1), (23, 1), (24, 1), (25, 1), (26, 1), (27, 1), (28, 1), (29, 1), (30, 1), (31, 1)] [(B.zero 32).seg] O O .nil (by kernel_rfl) (by kernel_rfl) O) ?_)
 refine am O (aN O O (by kernel_rfl) O O (fun w hM hK => print_c (B.zero 32) w)) ?_
 intro _ _
 try simp only [setN, putD, selM, nth, cw, cx]
 refine aa O O O (ak O O) (ai ?_)
 refine ae (hK2 _ _ ?_)
 refine ah fun K3 hK3 => ah fun K4 hK4 => aj (aa O O O (af O O) ?_)
 refine aa O O O (bf O O O Tryz.underlying9) (aa O O O (SL.Pure.min2 O O O) ?_)
 refine aa O O O (af O O) (ai ?_)
 refine ae (hK4 _ _ ?_)
 refine aK (bu (X := Nat) (φ := fun i => i ≤ min s.length 71 ∧ midOk s i = true) (L := fun i => [(0, str s), (2, .pointer (some ⟨b2, 0, none⟩)), (5, str ZF), (14, .int .i64 (min (s.length : Int) 71)), (15, .int .i64 i)]) (M := fun i => [.blk b2 (idO (B.zero 32))]) (μ := fun i => 71 - i) ?_ ?_)
 ·
  exact fun _ _ st => ⟨0, ⟨Nat.zero_le _, rfl⟩, st.to [0] ⟨rfl, rfl, rfl, rfl, rfl, trivial⟩ O rfl⟩
 ·
  intro i ⟨hi, hno⟩
  try dsimp only
  refine ah fun K5 hK5 => aj (aa O O O (aT O O O) ?_)
  refine ai (ae ?_)
  refine hK5 _ _ (ah fun K6 hK6 => ?_)
  refine aH O (fun hc16 => ?_) (fun hc16 => ?_)
  ·
   have hlt : i < min s.length 71 := by simp at hc16; omega
   have hls : i < s.length := by omega
   have hci : s[((i : Nat) : Int).toNat]? = some (s.getD i 0) := by rw [Int.toNat_natCast]; exact gD hls
   have hzi : ZF[((i : Nat) : Int).toNat]? = some (ZF.getD i 0) := by rw [Int.toNat_natCast]; exact gD (by rw [ZF_len]; omega)
   have hbadE : midC i (s.getD i 0) = false → midE s = 6 := fun hb => by
    unfold midE
    rw [if_pos]
    cases hm : midOk s (min s.length 71) with
    | false => rfl
    | true => have := midOk_at s hlt hm; rw [hb] at this; cases this
   refine aC (ae ?_)
   refine hK6 _ _ (ah fun K7 hK7 => ?_)
   refine aK (ah fun K8 hK8 => ?_)
   refine aj (aa O O O (af O O) ?_)
   refine aa O O O (ak O O) (ai ?_)
   refine ae (hK8 _ _ ?_)
   refine ah fun K9 hK9 => aj (aa O O O (af O O) ?_)
   refine aa O O O (bB O O O) (aa O O O (af O O) ?_)
   refine aR (d := 20) O (fun hg20 => ?_) (fun hg20 => ?_)
   ·
    have hi1 : 1 ≤ i := by simp at hg20; omega
    refine aq O O O O O O O (af O O) (aq O O O O O O O (aT O O O) ?_)
    refine aa O O O (aF O O O) (aa O O O (ak O O) ?_)
    refine ai (ae ?_)
    refine hK9 _ _ (ah fun K10 hK10 => ?_)
    refine SL.Ok.quiet mixed (by kernel_rfl) ?_
    refine aA O O O (az (af O O)) (aA O O O (az (af O O)) ?_)
    refine SL.OkQ.split (d := 25) O (fun hg25 => ?_) (fun hg25 => ?_)
    ·
     have hi65 : i < 65 := by simp at hg25; omega
     refine bG O O O O O O O (az (af O O)) (bG O O O O O O O (az (af O O)) ?_)
     refine bG O O O O O O O (az (bQ O O O Tryz.underlying9 (by omega) (by assumption))) ?_
     refine bG O O O O O O O (bL O O (by kernel_rfl) O (fun w hM hK => indexByte_c HX (s.getD i 0) w)) ?_
     refine bG O O O O O O O (az (aT O O O)) (aA O O O (az (aF O O O)) ?_)
     refine aA O O O (az (af O O)) (SL.OkQ.split (d := 32) O (fun hg32 => ?_) (fun hg32 => ?_))
     ·
      have hd : digM (s.getD i 0) < 0 := by rw [hexI] at hg32; simpa [-List.getD_eq_getElem?_getD] using hg32
      refine bS O O O O O O O (bS O O O O O O O ?_)
      refine bS O O O O O O O (SL.OkQ.opU O O O O O O ?_)
      refine SL.OkQ.opU O O O O O O (SL.OkQ.opU O O O O O O ?_)
      refine SL.OkQ.opU O O O O O O (SL.OkQ.opU O O O O O O ?_)
      refine SL.OkQ.opU O O O O O O (SL.OkQ.opU O O O O O O ?_)
      refine bS O O O O O O O (aA O O O (az (aF O O O)) ?_)
      refine SL.OkQ.done (ae ?_)
      refine hK10 _ _ (bk O ?_)
      refine ah fun K11 hK11 => aj (aa O O O (bg [(0, 1), (1, 1), (2, 1), (3, 1), (4, 1), (5, 1), (6, 1), (7, 1), (8, 1), (9, 1), (10, 1), (11, 1), (12, 1), (13, 1), (14, 1), (15, 1), (16, 1), (17, 1), (18, 1), (19, 1), (20, 1), (21, 1), (22, 1), (23, 1), (24, 1), (25, 1), (26, 1), (27, 1), (28, 1), (29, 1), (30, 1), (31, 1)] [(B.zero 32).seg] O O .nil (by kernel_rfl) (by kernel_rfl) O) ?_)
      refine aa O O O (af O O) (am O (by first | exact ap (k := 32) 0 _ O O O O O O (by kernel_rfl) O O) ?_)
      intro _ _
      try simp only [setN, putD, selM, nth, cw, cx]
      refine aa O O O (ak O O) (aa O O O (ak O O) ?_)
      refine ai (ae ?_)
      refine hK11 _ _ (aw (aP (aB (aB (aP (aB av))))) (ar O (.cons (by first | exact SL.RV.cellA 0 (k := 32) O O (by kernel_rfl) O (by kernel_rfl)) (.cons (.tmp O) (.cons (.tmp O) .nil))) O) (fun w' hM' hK' => ?_))
      have hE := hbadE (by rw [midC_dig hi1 hi65]; simp [-List.getD_eq_getElem?_getD]; omega)
      exact ⟨_, trivial, by rw [midV, hE, if_neg (by decide)]; rfl, hK', hM'.sel [] rfl⟩
     ·
      have hd : ¬ digM (s.getD i 0) < 0 := by rw [hexI] at hg32; simpa [-List.getD_eq_getElem?_getD] using hg32
      refine bG O O O O O O O (az (af O O)) (bG O O O O O O O (az (bM O O)) ?_)
      refine bG O O O O O O O (az (af O O)) (SL.OkQ.split (d := 35) O (fun hg35 => ?_) (fun hg35 => ?_))
      ·
       have hi65' : ¬ (1 ≤ i ∧ i < 65) := by simp at hg35; omega
       refine bG O O O O O O O (az (af O O)) (bG O O O O O O O (az (af O O)) ?_)
       refine bG O O O O O O O (az (bQ O O O Tryz.underlying9 (by omega) hci)) ?_
       refine bG O O O O O O O (az (af O O)) (bG O O O O O O O (az (af O O)) ?_)
       refine bG O O O O O O O (az (bQ O O O Tryz.underlying9 (by omega) hzi)) ?_
       refine bG O O O O O O O (az (bl O O O)) (bG O O O O O O O (az (aF O O O)) ?_)
       refine aA O O O (az (aE O O O)) (SL.OkQ.done ?_)
       refine ae (hK10 _ _ ?_)
       refine aH O (fun hc44 => ?_) (fun hc44 => ?_)
       ·
        have he : ¬ s.getD i 0 = ZF.getD i 0 := fun h => by rw [h] at hc44; simp at hc44
        refine ah fun K12 hK12 => aj (aa O O O (bg [(0, 1), (1, 1), (2, 1), (3, 1), (4, 1), (5, 1), (6, 1), (7, 1), (8, 1), (9, 1), (10, 1), (11, 1), (12, 1), (13, 1), (14, 1), (15, 1), (16, 1), (17, 1), (18, 1), (19, 1), (20, 1), (21, 1), (22, 1), (23, 1), (24, 1), (25, 1), (26, 1), (27, 1), (28, 1), (29, 1), (30, 1), (31, 1)] [(B.zero 32).seg] O O .nil (by kernel_rfl) (by kernel_rfl) O) ?_)
        refine aa O O O (af O O) (am O (by first | exact ap (k := 32) 0 _ O O O O O O (by kernel_rfl) O O) ?_)
        intro _ _
        try simp only [setN, putD, selM, nth, cw, cx]
        refine aa O O O (ak O O) (aa O O O (ak O O) ?_)
        refine ai (ae ?_)
        refine hK12 _ _ (aw (aP (aB (aB (aP (aB av))))) (ar O (.cons (by first | exact SL.RV.cellA 0 (k := 32) O O (by kernel_rfl) O (by kernel_rfl)) (.cons (.tmp O) (.cons (.tmp O) .nil))) O) (fun w' hM' hK' => ?_))
        have hE := hbadE (by rw [midC_lit (by omega)]; exact decide_eq_false he)
        exact ⟨_, trivial, by rw [midV, hE, if_neg (by decide)]; rfl, hK', hM'.sel [] rfl⟩
       ·
        have hen : ((s.getD i 0).toNat : Int) = (ZF.getD i 0).toNat := by simpa [-List.getD_eq_getElem?_getD] using hc44
        have he : s.getD i 0 = ZF.getD i 0 := UInt8.toNat_inj.1 (by omega)
        refine aC (aQ ?_)
        refine ae (hK7 _ _ ?_)
        refine aj (aa O O O (aL O O O O (by omega) (by omega)) ?_)
        refine aa O O O (af O O) (ai ?_)
        refine ae ?_
        exact bd (i + 1) [0] ⟨by omega, by rw [midOk, hno, midC_lit (by omega), he]; simp⟩ (show 71 - (i + 1) < 71 - i by omega) ⟨rfl, rfl, rfl, rfl, rfl, trivial⟩ O rfl
      ·
       have hi65' : 1 ≤ i ∧ i < 65 := by simp at hg35; omega
       refine bS O O O O O O O (bS O O O O O O O ?_)
       refine bS O O O O O O O (bS O O O O O O O ?_)
       refine bS O O O O O O O (bS O O O O O O O ?_)
       refine bS O O O O O O O (bG O O O O O O O (az (aE O O O)) ?_)
       refine aA O O O (az (aE O O O)) (SL.OkQ.done ?_)
       refine ae (hK10 _ _ ?_)
       refine bq O (aC ?_)
       refine aQ (ae ?_)
       refine hK7 _ _ (aj ?_)
       refine aa O O O (aL O O O O (by omega) (by omega)) ?_
       refine aa O O O (af O O) (ai ?_)
       refine ae ?_
       exact bd (i + 1) [0] ⟨by omega, by rw [midOk, hno, midC_dig hi1 hi65]; simp [-List.getD_eq_getElem?_getD]; omega⟩ (show 71 - (i + 1) < 71 - i by omega) ⟨rfl, rfl, rfl, rfl, rfl, trivial⟩ O rfl
    ·
     have hi65 : ¬ i < 65 := by simp at hg25; omega
     refine bS O O O O O O O (bS O O O O O O O ?_)
     refine bS O O O O O O O (bS O O O O O O O ?_)
     refine bS O O O O O O O (aA O O O (az (aE O O O)) ?_)
     refine aA O O O (az (af O O)) (bG O O O O O O O (az (af O O)) ?_)
     refine bG O O O O O O O (az (bM O O)) (bG O O O O O O O (az (af O O)) ?_)
     refine SL.OkQ.split (d := 35) O (fun hg35 => ?_) (fun hg35 => ?_)
     ·
      have hi65' : ¬ (1 ≤ i ∧ i < 65) := by simp at hg35; omega
      refine bG O O O O O O O (az (af O O)) (bG O O O O O O O (az (af O O)) ?_)
      refine bG O O O O O O O (az (bQ O O O Tryz.underlying9 (by omega) hci)) ?_
      refine bG O O O O O O O (az (af O O)) (bG O O O O O O O (az (af O O)) ?_)
      refine bG O O O O O O O (az (bQ O O O Tryz.underlying9 (by omega) hzi)) ?_
      refine bG O O O O O O O (az (bl O O O)) (bG O O O O O O O (az (aF O O O)) ?_)
      refine aA O O O (az (aE O O O)) (SL.OkQ.done ?_)
      refine ae (hK10 _ _ ?_)
      refine aH O (fun hc44 => ?_) (fun hc44 => ?_)
      ·
       have he : ¬ s.getD i 0 = ZF.getD i 0 := fun h => by rw [h] at hc44; simp at hc44
       refine ah fun K13 hK13 => aj (aa O O O (bg [(0, 1), (1, 1), (2, 1), (3, 1), (4, 1), (5, 1), (6, 1), (7, 1), (8, 1), (9, 1), (10, 1), (11, 1), (12, 1), (13, 1), (14, 1), (15, 1), (16, 1), (17, 1), (18, 1), (19, 1), (20, 1), (21, 1), (22, 1), (23, 1), (24, 1), (25, 1), (26, 1), (27, 1), (28, 1), (29, 1), (30, 1), (31, 1)] [(B.zero 32).seg] O O .nil (by kernel_rfl) (by kernel_rfl) O) ?_)
       refine aa O O O (af O O) (am O (by first | exact ap (k := 32) 0 _ O O O O O O (by kernel_rfl) O O) ?_)
       intro _ _
       try simp only [setN, putD, selM, nth, cw, cx]
       refine aa O O O (ak O O) (aa O O O (ak O O) ?_)
       refine ai (ae ?_)
       refine hK13 _ _ (aw (aP (aB (aB (aP (aB av))))) (ar O (.cons (by first | exact SL.RV.cellA 0 (k := 32) O O (by kernel_rfl) O (by kernel_rfl)) (.cons (.tmp O) (.cons (.tmp O) .nil))) O) (fun w' hM' hK' => ?_))
       have hE := hbadE (by rw [midC_lit (by omega)]; exact decide_eq_false he)
       exact ⟨_, trivial, by rw [midV, hE, if_neg (by decide)]; rfl, hK', hM'.sel [] rfl⟩
      ·
       have hen : ((s.getD i 0).toNat : Int) = (ZF.getD i 0).toNat := by simpa [-List.getD_eq_getElem?_getD] using hc44
       have he : s.getD i 0 = ZF.getD i 0 := UInt8.toNat_inj.1 (by omega)
       refine aC (aQ ?_)
       refine ae (hK7 _ _ ?_)
       refine aj (aa O O O (aL O O O O (by omega) (by omega)) ?_)
       refine aa O O O (af O O) (ai ?_)
       refine ae ?_
       exact bd (i + 1) [0] ⟨by omega, by rw [midOk, hno, midC_lit (by omega), he]; simp⟩ (show 71 - (i + 1) < 71 - i by omega) ⟨rfl, rfl, rfl, rfl, rfl, trivial⟩ O rfl
     ·
      have hi65' : 1 ≤ i ∧ i < 65 := by simp at hg35; omega
      refine bS O O O O O O O (bS O O O O O O O ?_)
      refine bS O O O O O O O (bS O O O O O O O ?_)
      refine bS O O O O O O O (bS O O O O O O O ?_)
      refine bS O O O O O O O (bG O O O O O O O (az (aE O O O)) ?_)
      refine aA O O O (az (aE O O O)) (SL.OkQ.done ?_)
      refine ae (hK10 _ _ ?_)
      refine bq O (aC ?_)
      refine aQ (ae ?_)
      refine hK7 _ _ (aj ?_)
      refine aa O O O (aL O O O O (by omega) (by omega)) ?_
      refine aa O O O (af O O) (ai ?_)
      refine ae ?_
      exact bd (i + 1) [0] ⟨by omega, by omega⟩ (show 71 - (i + 1) < 71 - i by omega) ⟨rfl, rfl, rfl, rfl, rfl, trivial⟩ O rfl
   ·
    have hi1 : ¬ 1 ≤ i := by simp at hg20; omega
    refine ag O O O O O O O (ag O O O O O O O ?_)
    refine aa O O O (aE O O O) (aa O O O (ak O O) ?_)
    refine ai (ae ?_)
    refine hK9 _ _ (ah fun K14 hK14 => ?_)
    refine SL.Ok.quiet mixed (by kernel_rfl) ?_
    refine aA O O O (az (af O O)) (aA O O O (az (af O O)) ?_)
    refine bS O O O O O O O (bS O O O O O O O ?_)
    refine bS O O O O O O O (bS O O O O O O O ?_)
    refine bS O O O O O O O (aA O O O (az (aE O O O)) ?_)
    refine aA O O O (az (af O O)) (bG O O O O O O O (az (af O O)) ?_)
    refine bG O O O O O O O (az (bM O O)) (bG O O O O O O O (az (af O O)) ?_)
    refine bG O O O O O O O (az (af O O)) (bG O O O O O O O (az (af O O)) ?_)
    refine bG O O O O O O O (az (bQ O O O Tryz.underlying9 (by omega) hci)) ?_
    refine bG O O O O O O O (az (af O O)) (bG O O O O O O O (az (af O O)) ?_)
    refine bG O O O O O O O (az (bQ O O O Tryz.underlying9 (by omega) hzi)) ?_
    refine bG O O O O O O O (az (bl O O O)) (bG O O O O O O O (az (aF O O O)) ?_)
    refine aA O O O (az (aE O O O)) (SL.OkQ.done ?_)
    refine ae (hK14 _ _ ?_)
    refine aH O (fun hc44 => ?_) (fun hc44 => ?_)
    ·
     have he : ¬ s.getD i 0 = ZF.getD i 0 := fun h => by rw [h] at hc44; simp at hc44
     refine ah fun K15 hK15 => aj (aa O O O (bg [(0, 1), (1, 1), (2, 1), (3, 1), (4, 1), (5, 1), (6, 1), (7, 1), (8, 1), (9, 1), (10, 1), (11, 1), (12, 1), (13, 1), (14, 1), (15, 1), (16, 1), (17, 1), (18, 1), (19, 1), (20, 1), (21, 1), (22, 1), (23, 1), (24, 1), (25, 1), (26, 1), (27, 1), (28, 1), (29, 1), (30, 1), (31, 1)] [(B.zero 32).seg] O O .nil (by kernel_rfl) (by kernel_rfl) O) ?_)
     refine aa O O O (af O O) (am O (by first | exact ap (k := 32) 0 _ O O O O O O (by kernel_rfl) O O) ?_)
     intro _ _
     try simp only [setN, putD, selM, nth, cw, cx]
     refine aa O O O (ak O O) (aa O O O (ak O O) ?_)
     refine ai (ae ?_)
     refine hK15 _ _ (aw (aP (aB (aB (aP (aB av))))) (ar O (.cons (by first | exact SL.RV.cellA 0 (k := 32) O O (by kernel_rfl) O (by kernel_rfl)) (.cons (.tmp O) (.cons (.tmp O) .nil))) O) (fun w' hM' hK' => ?_))
     have hE := hbadE (by rw [midC_lit (by omega)]; exact decide_eq_false he)
     exact ⟨_, trivial, by rw [midV, hE, if_neg (by decide)]; rfl, hK', hM'.sel [] rfl⟩
    ·
     have hen : ((s.getD i 0).toNat : Int) = (ZF.getD i 0).toNat := by simpa [-List.getD_eq_getElem?_getD] using hc44
     have he : s.getD i 0 = ZF.getD i 0 := UInt8.toNat_inj.1 (by omega)
     refine aC (aQ ?_)
     refine ae (hK7 _ _ ?_)
     refine aj (aa O O O (aL O O O O (by omega) (by omega)) ?_)
     refine aa O O O (af O O) (ai ?_)
     refine ae ?_
     exact bd (i + 1) [0] ⟨by omega, by rw [midOk, hno, midC_lit (by omega), he]; simp⟩ (show 71 - (i + 1) < 71 - i by omega) ⟨rfl, rfl, rfl, rfl, rfl, trivial⟩ O rfl
  ·
   have hge : i = min s.length 71 := by simp at hc16; omega
   rw [hge] at hno
   refine aU (aI ?_)
   refine aI (aV ?_)
   refine ae (hK3 _ _ ?_)
   refine ah fun K16 hK16 => aK (ah fun K17 hK17 => ?_)
   refine aj (aa O O O (af O O) ?_)
   refine aa O O O (bf O O O Tryz.underlying9) (aa O O O (aT O O O) ?_)
   refine aa O O O (ak O O) (ai ?_)
   refine ae (hK17 _ _ ?_)
   refine aH O (fun hc48 => ?_) (fun hc48 => ?_)
   ·
    have hl : s.length < 71 := by simp at hc48; omega
    have hE : midE s = 4 := by unfold midE; rw [if_neg (by rw [hno]; decide), if_pos hl]
    refine ah fun K18 hK18 => aj (aa O O O (bg [(0, 1), (1, 1), (2, 1), (3, 1), (4, 1), (5, 1), (6, 1), (7, 1), (8, 1), (9, 1), (10, 1), (11, 1), (12, 1), (13, 1), (14, 1), (15, 1), (16, 1), (17, 1), (18, 1), (19, 1), (20, 1), (21, 1), (22, 1), (23, 1), (24, 1), (25, 1), (26, 1), (27, 1), (28, 1), (29, 1), (30, 1), (31, 1)] [(B.zero 32).seg] O O .nil (by kernel_rfl) (by kernel_rfl) O) ?_)
    refine aa O O O (af O O) (aa O O O (bf O O O Tryz.underlying9) ?_)
    refine am O (by first | exact ap (k := 32) 0 _ O O O O O O (by kernel_rfl) O O) ?_
    intro _ _
    try simp only [setN, putD, selM, nth, cw, cx]
    refine aa O O O (ak O O) (aa O O O (ak O O) ?_)
    refine ai (ae ?_)
    refine hK18 _ _ (aw (aP (aB av)) (ar O (.cons (by first | exact SL.RV.cellA 0 (k := 32) O O (by kernel_rfl) O (by kernel_rfl)) (.cons (.tmp O) (.cons (.tmp O) .nil))) O) (fun w' hM' hK' => ?_))
    exact ⟨_, trivial, by rw [midV, hE, if_neg (by decide)]; rfl, hK', hM'.sel [] rfl⟩
   ·
    have hl : ¬ s.length < 71 := by simp at hc48; omega
    refine ah fun K19 hK19 => aj (aa O O O (af O O) ?_)
    refine aa O O O (bf O O O Tryz.underlying9) (aa O O O (bH O O O) ?_)
    refine aa O O O (ak O O) (ai ?_)
    refine ae (hK19 _ _ ?_)
    refine aH O (fun hc55 => ?_) (fun hc55 => ?_)
    ·
     have hl2 : 71 < s.length := by simp at hc55; omega
     have hE : midE s = 5 := by unfold midE; rw [if_neg (by rw [hno]; decide), if_neg hl, if_pos hl2]
     refine ah fun K20 hK20 => aj (aa O O O (bg [(0, 1), (1, 1), (2, 1), (3, 1), (4, 1), (5, 1), (6, 1), (7, 1), (8, 1), (9, 1), (10, 1), (11, 1), (12, 1), (13, 1), (14, 1), (15, 1), (16, 1), (17, 1), (18, 1), (19, 1), (20, 1), (21, 1), (22, 1), (23, 1), (24, 1), (25, 1), (26, 1), (27, 1), (28, 1), (29, 1), (30, 1), (31, 1)] [(B.zero 32).seg] O O .nil (by kernel_rfl) (by kernel_rfl) O) ?_)
     refine am O (by first | exact ap (k := 32) 0 _ O O O O O O (by kernel_rfl) O O) ?_
     intro _ _
     try simp only [setN, putD, selM, nth, cw, cx]
     refine aa O O O (ak O O) (aa O O O (ak O O) ?_)
     refine ai (ae ?_)
     refine hK20 _ _ (aw (aP (aB av)) (ar O (.cons (by first | exact SL.RV.cellA 0 (k := 32) O O (by kernel_rfl) O (by kernel_rfl)) (.cons (.tmp O) (.cons (.tmp O) .nil))) O) (fun w' hM' hK' => ?_))
     exact ⟨_, trivial, by rw [midV, hE, if_neg (by decide)]; rfl, hK', hM'.sel [] rfl⟩
    ·
     have hl2 : s.length = 71 := by simp at hc55; omega
     have hE : midE s = 0 := by unfold midE; rw [if_neg (by rw [hno]; decide), if_neg hl, if_neg (by omega)]
     have hul : ((s.take 65).drop 1).length = 64 := by simp; omega
     have hhex : allHex ((s.take 65).drop 1) := fun k hk => by
      rw [hul] at hk
      have := midOk_at s (i := k + 1) (j := 71) (by omega) (by rw [hl2] at hno; exact hno)
      rw [midC_dig (by omega) (by omega)] at this
      have e : ((s.take 65).drop 1).getD k 0 = s.getD (k + 1) 0 := by simp [List.getD, List.getElem?_take, show 1 + k < 65 by omega, show k + 1 < 65 by omega, Nat.add_comm]
      rw [e]
      simpa [-List.getD_eq_getElem?_getD] using this
     have hun := unhex_c ((s.take 65).drop 1) (by rw [hul]) (by rw [hul]; decide) hhex
     rw [hul] at hun
     have huv : (B.of 32 (uhx ((s.take 65).drop 1))).l = uhx ((s.take 65).drop 1) := B.of_l (by rw [uhx_len, hul])
     refine aC (aQ ?_)
     refine ae (hK16 _ _ ?_)
     refine ah fun K21 hK21 => aj (aa O O O (af O O) ?_)
     refine aa O O O (SL.Pure.sliceSTo (r := (s.take 65).drop 1) O O Tryz.underlying9 O O (by omega) (by omega) (by omega) O) ?_
     refine am O (aM [] [0] O O (by kernel_rfl) O O O O (fun w hM hK => hun w)) ?_
     intro ⟨a', c'⟩ hv'
     try simp only [setN, putD, selM, nth, cw, cx]
     refine aa O O O (af O O) (aa O O O (aW O O O) ?_)
     refine aa O O O (aW O O O) (aa O O O (ak O O) ?_)
     refine aa O O O (ak O O) (ai ?_)
     refine ae (hK21 _ _ ?_)
     refine ah fun K22 hK22 => aj (aa O O O (SL.Pure.sliceArrO (sz := 1) O O Tryz.underlying26 (by kernel_rfl) (by decide)) ?_)
     refine aa O O O (af O O) (am O (SL.Eff.copyB (u := B.of 32 (uhx ((s.take 65).drop 1))) 1 O O O O Tryz.underlying52 (by kernel_rfl) (fun w hM hK => by rw [huv]; exact bK (i := 0) O hM) O O (by decide)) ?_)
     intro _ _
     try simp only [setN, putD, selM, nth, cw, cx]
     refine ai (ae ?_)
     refine hK22 _ _ (ah fun K23 hK23 => ?_)
     refine aj (aa O O O (by first | exact ay 0 (k := 32) O O O (by kernel_rfl) O (by kernel_rfl) | exact ay 1 (k := 32) O O O (by kernel_rfl) O (by kernel_rfl)) ?_)
     refine am O (by first | exact ap (k := 32) 0 _ O O O O O O (by kernel_rfl) O O | exact ap (k := 32) 1 _ O O O O O O (by kernel_rfl) O O) ?_
     intro _ _
     try simp only [setN, putD, selM, nth, cw, cx]
     refine aa O O O (ak O O) (aa O O O (ak O O) ?_)
     refine ai (ae ?_)
     refine hK23 _ _ (aw av (ar O (.cons (by first | exact SL.RV.cellA 0 (k := 32) O O (by kernel_rfl) O (by kernel_rfl) | exact SL.RV.cellA 1 (k := 32) O O (by kernel_rfl) O (by kernel_rfl)) (.cons (.tmp O) (.cons (.tmp O) .nil))) O) (fun w' hM' hK' => ?_))
     exact ⟨_, trivial, by rw [midV, hE, if_pos rfl]; rfl, hK', hM'.sel [] rfl⟩
end Go.Proofs.YthfhhkanpnemcaaGreatDoor
namespace Go.Proofs.YthfhhkanpnemcaaGreatDoor
open Go.SL Go.RowKit IntWalk
set_option linter.unusedVariables false
set_option maxRecDepth 100000
set_option linter.unusedSimpArgs false
set_option maxHeartbeats 400000

theorem Glob.keepM {m : List Res} {w w' : World} (h : Glob w) (hk : Keeps (blocksOf m) w w') (hm : ∀ r ∈ m, ∀ k, r.block = some k → 6 ≤ k) : Glob w' :=
 h.keepS hk (fun k hk ⟨r, hr, hb⟩ => by have := hm r hr k hb; omega)
theorem Glob.keep1 {b : Nat} {ob : Obj} {w w' : World} (h : Glob w) (hk : Keeps (blocksOf [.blk b ob]) w w') (hb : 6 ≤ b) : Glob w' :=
 h.keepM hk (fun r hr k hk => by simp only [List.mem_singleton] at hr; subst hr; simp only [Res.block, Option.some.injEq] at hk; omega)

structure Rd where
 at_ : Int
 fr : Int
 bad : Int
 e : Int
abbrev rdO (s : List UInt8) (r : Rd) : Obj := .cells (flat [Seg.one (str s) rfl, Seg.one (.int .i64 r.at_) rfl, Seg.one (.int .i64 r.fr) rfl, Seg.one (.int .i64 r.bad) rfl, Seg.one (.int .i64 r.e) rfl]) 141 (0, 0)
def failM (r : Rd) (a e : Int) : Rd := if r.e = 0 then ⟨r.at_, r.fr, a, e⟩ else r
def wantM (r : Rd) (ok : Bool) (e : Int) : Rd := if ok then r else failM r r.fr e

theorem fail_c (b : Nat) (s : List UInt8) (r : Rd) (a e : Int) (w : World) (hm : Mem (blocksOf [.blk b (rdO s r)]) w [.blk b (rdO s r)] w) :
  Calls Tryz.prog 90 [.pointer (some ⟨b, 0, none⟩), .int .i64 a, .int .i64 e].toArray w fun q w' => ∃ _ : Unit, True ∧ q = .returned (.tuple #[]) ∧ Post w (blocksOf [.blk b (rdO s r)]) [.blk b (rdO s (failM r a e))] w' := by
 refine aJ (n := 19) (W := (blocksOf [.blk b (rdO s r)])) (m := [.blk b (rdO s r)]) Tryz.func90 O Tryz.ntmps90 O hm ?_
 simp only [SL.enum, Nat.reduceAdd]
 refine ah fun K1 hK1 => aj (aa O O O (af O O) ?_)
 refine aa O O O (aZ O O) (aa O O O (au (k := 4) O O (by kernel_rfl) O) ?_)
 refine aa O O O (by first | exact al 0 O O O O (by kernel_rfl)) ?_
 refine aa O O O (bt O O O) (ai ?_)
 refine ae (hK1 _ _ ?_)
 refine aH O (fun hc10 => ?_) (fun hc10 => ?_)
 ·
  have h : r.e = 0 := by simpa using hc10
  have hs : failM r a e = ⟨r.at_, r.fr, a, e⟩ := if_pos h
  refine aj (aa O O O (af O O) ?_)
  refine aa O O O (af O O) (aa O O O (af O O) ?_)
  refine aa O O O (af O O) (aa O O O (aZ O O) ?_)
  refine aa O O O (au (k := 3) O O (by kernel_rfl) O) ?_
  refine am O (by first | exact ap (k := 1) 0 [SL.Seg.one _ rfl] O O O O O O (by kernel_rfl) O O) ?_
  intro _ _
  try simp only [setN, putD, selM, nth, cw, cx]
  refine aa O O O (aZ O O) (aa O O O (au (k := 4) O O (by kernel_rfl) O) ?_)
  refine am O (by first | exact ap (k := 1) 0 [SL.Seg.one _ rfl] O O O O O O (by kernel_rfl) O O) ?_
  intro _ _
  try simp only [setN, putD, selM, nth, cw, cx]
  refine ai (ci (fun _ _ h => h) (ar O .nil O) (fun w' hM' hK' => ?_))
  exact ⟨(), trivial, rfl, hK', by rw [hs]; exact hM'.sel [0] rfl⟩
 ·
  have h : ¬ r.e = 0 := by simpa using hc10
  have hs : failM r a e = r := if_neg h
  refine aC (ci (fun _ _ h => h) (ar O .nil O) (fun w' hM' hK' => ?_))
  exact ⟨(), trivial, rfl, hK', by rw [hs]; exact hM'.sel [0] rfl⟩
theorem want_c (b : Nat) (s : List UInt8) (r : Rd) (ok : Bool) (e : Int) (w : World) (hm : Mem (blocksOf [.blk b (rdO s r)]) w [.blk b (rdO s r)] w) :
  Calls Tryz.prog 142 [.pointer (some ⟨b, 0, none⟩), .bool ok, .int .i64 e].toArray w fun q w' => ∃ _ : Unit, True ∧ q = .returned (.tuple #[]) ∧ Post w (blocksOf [.blk b (rdO s r)]) [.blk b (rdO s (wantM r ok e))] w' := by
 refine aJ (n := 15) (W := (blocksOf [.blk b (rdO s r)])) (m := [.blk b (rdO s r)]) Tryz.func142 O Tryz.ntmps142 O hm ?_
 simp only [SL.enum, Nat.reduceAdd]
 refine ah fun K1 hK1 => aj (aa O O O (af O O) ?_)
 refine aa O O O (bM O O) (ai ?_)
 refine ae (hK1 _ _ ?_)
 refine aH O (fun hc7 => ?_) (fun hc7 => ?_)
 ·
  have h : ok = false := by simpa using hc7
  subst h
  refine aj (aa O O O (af O O) ?_)
  refine aa O O O (af O O) (aa O O O (aZ O O) ?_)
  refine aa O O O (au (k := 2) O O (by kernel_rfl) O) ?_
  refine aa O O O (by first | exact al 0 O O O O (by kernel_rfl)) ?_
  refine aa O O O (af O O) (am O (aM [0] [] O O (by kernel_rfl) O O O O (fun w hM hK => fail_c b s r r.fr e w (hM.sel [0] O).own)) ?_)
  intro _ _
  try simp only [setN, putD, selM, nth, cw, cx]
  refine ai (ci (fun _ _ h => h) (ar O .nil O) (fun w' hM' hK' => ?_))
  exact ⟨(), trivial, rfl, hK', hM'.sel [0] rfl⟩
 ·
  have h : ok = true := by simpa using hc7
  subst h
  refine aC (ci (fun _ _ h => h) (ar O .nil O) (fun w' hM' hK' => ?_))
  exact ⟨(), trivial, rfl, hK', hM'.sel [0] rfl⟩

/-- the next word -/
def wordC (s : List UInt8) (r : Rd) : List UInt8 × List UInt8 × Bool := Lib.cut (s.drop r.at_.toNat) [32]
def wordW (s : List UInt8) (r : Rd) : List UInt8 := if r.e ≠ 0 then [] else if r.at_ < 0 then [] else (wordC s r).1
def nextAt (s : List UInt8) (r : Rd) : Int := if (wordC s r).2.2 = true then r.at_ + (((wordC s r).1.length : Int) + 1) else -1
def wordR (s : List UInt8) (r : Rd) : Rd := if r.e ≠ 0 then r else if r.at_ < 0 then failM r s.length 4 else ⟨nextAt s r, r.at_, r.bad, r.e⟩
theorem cutS_len {s : List UInt8} (h : (Lib.cut s [32]).2.2 = true) : (Lib.cut s [32]).1.length + 1 ≤ s.length := by
 unfold Lib.cut at h ⊢
 by_cases hi : 0 ≤ Lib.index s [32]
 ·
  rw [if_pos hi] at h ⊢
  have := Lib.index_room s [32] hi
  simp at this ⊢
  omega
 ·
  rw [if_neg hi] at h; cases h
theorem cutS_le (s : List UInt8) : (Lib.cut s [32]).1.length ≤ s.length := by
 unfold Lib.cut
 split <;> simp; omega
theorem wordW_len (s : List UInt8) (r : Rd) : (wordW s r).length ≤ s.length := by
 unfold wordW
 split
 ·
  simp
 ·
  split
  ·
   simp
  ·
   have := cutS_le (s.drop r.at_.toNat)
   rw [List.length_drop] at this
   unfold wordC
   omega
theorem failM_at (r : Rd) (a e : Int) : (failM r a e).at_ = r.at_ := by unfold failM; split <;> rfl
theorem wantM_at (r : Rd) (ok : Bool) (e : Int) : (wantM r ok e).at_ = r.at_ := by unfold wantM; split; rfl; exact failM_at ..
theorem nextAt_le {s : List UInt8} {r : Rd} (h0 : ¬ r.at_ < 0) (h : r.at_ ≤ s.length) : nextAt s r ≤ s.length := by
 unfold nextAt
 by_cases h2 : (wordC s r).2.2 = true
 ·
  rw [if_pos h2]
  have := cutS_len h2
  rw [List.length_drop] at this
  unfold wordC
  omega
 ·
  rw [if_neg h2]; omega
theorem wordR_at {s : List UInt8} {r : Rd} (h : r.at_ ≤ s.length) : (wordR s r).at_ ≤ s.length := by
 unfold wordR
 split
 ·
  exact h
 ·
  split
  ·
   rw [failM_at]; exact h
  ·
   exact nextAt_le (by assumption) h

theorem word_c (b : Nat) (s : List UInt8) (r : Rd) (hs : s.length ≤ 100000) (hr : r.at_ ≤ s.length) (hb : 6 ≤ b) (w : World) (hG : Glob w) (hm : Mem (blocksOf [.blk b (rdO s r)]) w [.blk b (rdO s r)] w) :
  Calls Tryz.prog 89 [.pointer (some ⟨b, 0, none⟩)].toArray w fun q w' => ∃ _ : Unit, True ∧ q = .returned (str (wordW s r)) ∧ Post w (blocksOf [.blk b (rdO s r)]) [.blk b (rdO s (wordR s r))] w' := by
 refine aJ (n := 60) (W := (blocksOf [.blk b (rdO s r)])) (m := [.blk b (rdO s r)]) Tryz.func89 O Tryz.ntmps89 O hm ?_
 simp only [SL.enum, Nat.reduceAdd]
 refine ah fun K1 hK1 => aj (aa O O O (ak O O) ?_)
 refine ai (ae ?_)
 refine hK1 _ _ (ah fun K2 hK2 => ?_)
 refine ah fun K3 hK3 => aj (aa O O O (af O O) ?_)
 refine aa O O O (aZ O O) (aa O O O (au (k := 4) O O (by kernel_rfl) O) ?_)
 refine aa O O O (by first | exact al 0 O O O O (by kernel_rfl)) ?_
 refine aa O O O (bl O O O) (ai ?_)
 refine ae (hK3 _ _ ?_)
 refine aH O (fun hc10 => ?_) (fun hc10 => ?_)
 ·
  have h : r.e ≠ 0 := by simpa using hc10
  have hW : wordW s r = [] := if_pos h
  have hR : wordR s r = r := if_pos h
  refine ah fun K4 hK4 => aj (aa O O O (ak O O) ?_)
  refine ai (ae ?_)
  refine hK4 _ _ (aw (aB av) (ar O (.cons (.tmp O) .nil) O) (fun w' hM' hK' => ?_))
  exact ⟨(), trivial, by rw [hW]; rfl, hK', by rw [hR]; exact hM'.sel [0] rfl⟩
 ·
  have h : ¬ r.e ≠ 0 := by simpa using hc10
  refine aC (ae ?_)
  refine hK2 _ _ (ah fun K5 hK5 => ?_)
  refine ah fun K6 hK6 => aj (aa O O O (af O O) ?_)
  refine aa O O O (aZ O O) (aa O O O (au (k := 1) O O (by kernel_rfl) O) ?_)
  refine aa O O O (by first | exact al 0 O O O O (by kernel_rfl)) ?_
  refine aa O O O (aT O O O) (ai ?_)
  refine ae (hK6 _ _ ?_)
  refine aH O (fun hc15 => ?_) (fun hc15 => ?_)
  ·
   have h2 : r.at_ < 0 := by simpa using hc15
   have hW : wordW s r = [] := by rw [wordW, if_neg h, if_pos h2]
   have hR : wordR s r = failM r s.length 4 := by rw [wordR, if_neg h, if_pos h2]
   refine ah fun K7 hK7 => aj (aa O O O (af O O) ?_)
   refine aa O O O (af O O) (aa O O O (aZ O O) ?_)
   refine aa O O O (au (k := 0) O O (by kernel_rfl) O) ?_
   refine aa O O O (by first | exact al 0 O O O O (by kernel_rfl)) ?_
   refine aa O O O (bf O O O Tryz.underlying9) (am O (aM [0] [] O O (by kernel_rfl) O O O O (fun w hM hK => fail_c b s r s.length 4 w (hM.sel [0] O).own)) ?_)
   intro _ _
   try simp only [setN, putD, selM, nth, cw, cx]
   refine ai (ae ?_)
   refine hK7 _ _ (ah fun K8 hK8 => ?_)
   refine aj (aa O O O (ak O O) ?_)
   refine ai (ae ?_)
   refine hK8 _ _ (aw (aB av) (ar O (.cons (.tmp O) .nil) O) (fun w' hM' hK' => ?_))
   exact ⟨(), trivial, by rw [hW]; rfl, hK', by rw [hR]; exact hM'.sel [0] rfl⟩
  ·
   have h2 : ¬ r.at_ < 0 := by simpa using hc15
   have hW : wordW s r = (wordC s r).1 := by rw [wordW, if_neg h, if_neg h2]
   have hR : wordR s r = ⟨nextAt s r, r.at_, r.bad, r.e⟩ := by rw [wordR, if_neg h, if_neg h2]
   have hl : (wordC s r).1.length ≤ s.length := by have := cutS_le (s.drop r.at_.toNat); rw [List.length_drop] at this; unfold wordC; omega
   have hl' : (Lib.cut (s.drop r.at_.toNat) [32]).1.length ≤ s.length := hl
   refine aC (ae ?_)
   refine hK5 _ _ (ah fun K9 hK9 => ?_)
   refine aj (aa O O O (af O O) ?_)
   refine aa O O O (af O O) (aa O O O (aZ O O) ?_)
   refine aa O O O (au (k := 1) O O (by kernel_rfl) O) ?_
   refine aa O O O (by first | exact al 0 O O O O (by kernel_rfl)) ?_
   refine aa O O O (aZ O O) (aa O O O (au (k := 2) O O (by kernel_rfl) O) ?_)
   refine am O (by first | exact ap (k := 1) 0 [SL.Seg.one _ rfl] O O O O O O (by kernel_rfl) O O) ?_
   intro _ _
   try simp only [setN, putD, selM, nth, cw, cx]
   refine ai (ae ?_)
   refine hK9 _ _ (ah fun K10 hK10 => ?_)
   refine SL.Ok.quiet mixed (by kernel_rfl) ?_
   refine aA O O O (az (af O O)) (aA O O O (az (aZ O O)) ?_)
   refine aA O O O (az (au (k := 0) O O (by kernel_rfl) O)) ?_
   refine aA O O O (az (by first | exact al 0 O O O O (by kernel_rfl))) ?_
   refine aA O O O (az (af O O)) (aA O O O (az (aZ O O)) ?_)
   refine aA O O O (az (au (k := 1) O O (by kernel_rfl) O)) ?_
   refine aA O O O (az (by first | exact al 0 O O O O (by kernel_rfl))) ?_
   refine aA O O O (az (SL.Pure.sliceSTo (r := s.drop r.at_.toNat) O O Tryz.underlying9 O O (by omega) (by omega) (by omega) (by simp))) ?_
   refine aA O O O (bL O O (by kernel_rfl) O (fun w hM hK => cut_c (s.drop r.at_.toNat) [32] (by simp; omega) w (hG.keep1 hK hb))) ?_
   refine aA O O O (az (af O O)) (aA O O O (az (aW O O O)) ?_)
   refine aA O O O (az (aW O O O)) (aA O O O (az (aW O O O)) ?_)
   refine aA O O O (az (ak O O)) (aA O O O (az (ak O O)) ?_)
   refine aA O O O (az (ak O O)) (SL.OkQ.done ?_)
   refine ae (hK10 _ _ ?_)
   refine ah fun K11 hK11 => aj (aa O O O (af O O) ?_)
   refine aa O O O (aZ O O) (aa O O O (au (k := 1) O O (by kernel_rfl) O) ?_)
   refine aa O O O (by first | exact al 0 O O O O (by kernel_rfl)) ?_
   refine aa O O O (af O O) (aa O O O (bf O O O Tryz.underlying9) ?_)
   refine aa O O O (aL O O O O (by omega) (by omega)) ?_
   refine aa O O O (aL O O O O (by omega) (by omega)) ?_
   refine aa O O O (aZ O O) (aa O O O (au (k := 1) O O (by kernel_rfl) O) ?_)
   refine am O (by first | exact ap (k := 1) 0 [SL.Seg.one _ rfl] O O O O O O (by kernel_rfl) O O) ?_
   intro _ _
   try simp only [setN, putD, selM, nth, cw, cx]
   refine ai (ae ?_)
   refine hK11 _ _ (ah fun K12 hK12 => ?_)
   refine ah fun K13 hK13 => aj (aa O O O (af O O) ?_)
   refine aa O O O (bM O O) (ai ?_)
   refine ae (hK13 _ _ ?_)
   refine aH O (fun hc55 => ?_) (fun hc55 => ?_)
   ·
    have h3 : (wordC s r).2.2 = false := by unfold wordC; simpa using hc55
    rw [nextAt, if_neg (by rw [h3]; decide)] at hR
    refine aj (aa O O O (af O O) ?_)
    refine aa O O O (aZ O O) (aa O O O (au (k := 1) O O (by kernel_rfl) O) ?_)
    refine am O (by first | exact ap (k := 1) 0 [SL.Seg.one _ rfl] O O O O O O (by kernel_rfl) O O) ?_
    intro _ _
    try simp only [setN, putD, selM, nth, cw, cx]
    refine ai (ae ?_)
    refine hK12 _ _ (ah fun K14 hK14 => ?_)
    refine aj (aa O O O (af O O) ?_)
    refine aa O O O (ak O O) (ai ?_)
    refine ae (hK14 _ _ ?_)
    refine aw av (ar O (.cons (.tmp O) .nil) O) (fun w' hM' hK' => ?_)
    exact ⟨(), trivial, by rw [hW]; rfl, hK', by rw [hR]; exact hM'.sel [0] rfl⟩
   ·
    have h3 : (wordC s r).2.2 = true := by unfold wordC; simpa using hc55
    rw [nextAt, if_pos h3] at hR
    refine aC (ae ?_)
    refine hK12 _ _ (ah fun K15 hK15 => ?_)
    refine aj (aa O O O (af O O) ?_)
    refine aa O O O (ak O O) (ai ?_)
    refine ae (hK15 _ _ ?_)
    refine aw av (ar O (.cons (.tmp O) .nil) O) (fun w' hM' hK' => ?_)
    exact ⟨(), trivial, by rw [hW]; rfl, hK', by rw [hR]; exact hM'.sel [0] rfl⟩
end Go.Proofs.YthfhhkanpnemcaaGreatDoor
