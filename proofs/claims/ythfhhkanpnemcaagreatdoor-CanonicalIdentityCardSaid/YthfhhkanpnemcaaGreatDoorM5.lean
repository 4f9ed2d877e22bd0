/- The reference's plain texts: digits, hexadecimal, lists, and their contracts. The reference's lists: Text, has, Check, Print, list. The reference: Print of a list, list, base64, the key. The reference: base64, bit by bit; the key. The reference: the bytes of a key, its text, and the canonical form. The reference: the canonical form. -/
import Derived.Test.YthfhhkanpnemcaaGreatDoorM4
import Derived.Test.YthfhhkanpnemcaaGreatDoorM3
import Derived.Lib.ItoaNum
import Derived.Test.YthfhhkanpnemcaaGreatDoorM2
namespace Go.Proofs.YthfhhkanpnemcaaGreatDoor
open Go.SL Go.RowKit IntWalk
set_option linter.unusedVariables false
set_option maxRecDepth 100000
set_option linter.unusedSimpArgs false
set_option maxHeartbeats 400000

/-! ### Hexadecimal -/
def HX : List UInt8 := [48, 49, 50, 51, 52, 53, 54, 55, 56, 57, 97, 98, 99, 100, 101, 102]
def hexd (q : Nat) : UInt8 := HX.getD q 0
theorem hexd_slice : ∀ q, q < 16 → (HX.take (q + 1)).drop q = [hexd q] := by decide
def hex2 (c : UInt8) : List UInt8 := [hexd (c.toNat / 16), hexd (c.toNat % 16)]
def hexs (l : List UInt8) : List UInt8 := l.flatMap hex2
theorem hexs_len (l : List UInt8) : (hexs l).length = 2 * l.length := by
 induction l with
 | nil => rfl
 | cons c l ih =>
  show (hex2 c ++ hexs l).length = _
  rw [List.length_append, ih]; simp [hex2]; omega
theorem hexs_step (l : List UInt8) (i : Nat) (h : i < l.length) : hexs (l.take (i + 1)) = hexs (l.take i) ++ ([hexd ((l.getD i 0).toNat / 16)] ++ [hexd ((l.getD i 0).toNat % 16)]) := by
 have : l.take (i + 1) = l.take i ++ [l.getD i 0] := by rw [List.take_succ_eq_append_getElem h]; simp [h]
 rw [this]
 simp [hexs, hex2]
theorem B.get_getD {n : Nat} (b : B n) (i : Nat) : b.get i = b.l.getD i 0 := rfl

theorem q16 (c : UInt8) : IntKind.u8.wrap ((c.toNat : Int) / 16) = ((c.toNat / 16 : Nat) : Int) := by have := c.toNat_lt; rw [IntKind.wrap_u8]; omega
theorem a1u8 (q : Nat) (h : q < 16) : IntKind.u8.wrap ((q : Int) + 1) = ((q + 1 : Nat) : Int) := by rw [IntKind.wrap_u8]; omega
theorem sl16 (q : Nat) (h : q < 16) : (HX.take (Int.toNat ((q + 1 : Nat) : Int))).drop (Int.toNat (q : Int)) = [hexd q] := by
 simpa using hexd_slice q h

theorem refHex_c (id : B 32) (w : World) : Calls Tryz.prog 62 [.agg (flat [id.seg])].toArray w fun e w' => e = .returned (str (hexs id.l)) ∧ Keeps none1 w w' := by
 refine aJ (n := 31) (W := SL.none1) (m := []) Tryz.func62 O Tryz.ntmps62 O (aO _ _ _) ?_
 simp only [SL.enum, Nat.reduceAdd]
 refine ah fun K1 hK1 => aj (am O (bh _ O O O O O) ?_)
 intro b1 _
 try simp only [setN, putD, selM, nth, cw, cx]
 refine aa O O O (ak O O) (ai ?_)
 refine ae (hK1 _ _ ?_)
 refine ah fun K2 hK2 => aj (aa O O O (ak O O) ?_)
 refine ai (ae ?_)
 refine hK2 _ _ (ah fun K3 hK3 => ?_)
 refine ah fun K4 hK4 => aj (aa O O O (ak O O) ?_)
 refine ai (ae ?_)
 refine hK4 _ _ (aK ?_)
 refine bu (X := Nat) (φ := fun i => i ≤ 32) (L := fun i => [(1, .pointer (some ⟨b1, 0, none⟩)), (3, str (hexs (id.l.take i))), (4, .int .i64 i)]) (M := fun i => [.blk b1 (.cells (flat [id.seg]) 77 (0, 0))]) (μ := fun i => 32 - i) ?_ ?_
 ·
  exact fun _ _ st => ⟨0, Nat.zero_le _, st.to [0] ⟨rfl, rfl, rfl, trivial⟩ O rfl⟩
 ·
  intro i hi
  try dsimp only
  refine ah fun K5 hK5 => ah fun K6 hK6 => aj (aa O O O (af O O) ?_)
  refine aa O O O (aT O O O) (ai ?_)
  refine ae (hK6 _ _ ?_)
  refine aH O (fun hc8 => ?_) (fun hc8 => ?_)
  ·
   have hlt : i < 32 := by simp at hc8; omega
   have hli : i < id.l.length := by rw [id.h]; exact hlt
   have hc := (id.get i).toNat_lt
   have hsl := hexs_len (id.l.take i)
   rw [List.length_take] at hsl
   refine aC (ae ?_)
   refine hK5 _ _ (ah fun K7 hK7 => ?_)
   refine aK (ah fun K8 hK8 => ?_)
   refine bX 9 mixed (by kernel_rfl) O O (fun wd5 => ?_)
   refine aD O O O (af O O) (aD O O O (bR (off' := i) (sz := 1) O O O Tryz.underlying77 (by kernel_rfl) (by omega) (by omega) (by omega)) ?_)
   refine aD O O O (ce 0 O O O (cn _ hlt) (by kernel_rfl)) ?_
   refine aD O O O (SL.Pure.quoN O O O (by omega) (by decide) (q16 _)) ?_
   refine aD O O O (af O O) (aD O O O (bR (off' := i) (sz := 1) O O O Tryz.underlying77 (by kernel_rfl) (by omega) (by omega) (by omega)) ?_)
   refine aD O O O (ce 0 O O O (cn _ hlt) (by kernel_rfl)) ?_
   refine aD O O O (SL.Pure.remN (r := (((id.get i).toNat % 16 : Nat) : Int)) O O O (by omega) (by decide) (by omega)) ?_
   refine aD O O O (ak O O) (bV ?_)
   refine aa O O O (ak O O) (ai ?_)
   refine ae (hK8 _ _ ?_)
   refine bX 11 mixed (by kernel_rfl) O O (fun wd6 => ?_)
   refine aD O O O (af O O) (aD O O O (af O O) ?_)
   refine aD O O O (af O O) (aD O O O (SL.Pure.addW O O O (a1u8 _ (by omega))) ?_)
   refine aD O O O (SL.Pure.sliceS2 O (show _ = some (str HX) from O) Tryz.underlying9 O O (by omega) (by omega) (by show _ ≤ ((16 : Nat) : Int); omega) (sl16 _ (by omega))) ?_
   refine aD O O O (af O O) (aD O O O (af O O) ?_)
   refine aD O O O (SL.Pure.addW O O O (a1u8 _ (by omega))) ?_
   refine aD O O O (SL.Pure.sliceS2 O (show _ = some (str HX) from O) Tryz.underlying9 O O (by omega) (by omega) (by show _ ≤ ((16 : Nat) : Int); omega) (sl16 _ (by omega))) ?_
   refine aD O O O (ba O O O (by simp)) ?_
   refine aD O O O (ba O O O (by simp; omega)) ?_
   refine bV (aa O O O (ak O O) ?_)
   refine ai ?_
   rw [show (id.get i) = id.l.getD i 0 from rfl, ← hexs_step id.l i hli]
   refine aQ (ae ?_)
   refine hK7 _ _ (aj ?_)
   refine aa O O O (af O O) (aa O O O (aL O O O O (by omega) (by omega)) ?_)
   refine aa O O O (ak O O) (ai ?_)
   refine ae ?_
   exact bd (i + 1) [0] (show i + 1 ≤ 32 by omega) (show 32 - (i + 1) < 32 - i by omega) ⟨rfl, rfl, rfl, trivial⟩ O rfl
  ·
   have hie : i = 32 := by simp at hc8; omega
   subst hie
   rw [List.take_of_length_le (show id.l.length ≤ 32 by rw [id.h]; omega)]
   refine aU (aI ?_)
   refine aI (aV ?_)
   refine ae (hK3 _ _ ?_)
   refine ah fun K9 hK9 => aj (aa O O O (af O O) ?_)
   refine aa O O O (ak O O) (ai ?_)
   refine ae (hK9 _ _ ?_)
   refine aw av (ar O (.cons (.tmp O) .nil) O) (fun w' hM' hK' => ?_)
   exact ⟨rfl, hK'⟩

def idt (l : List UInt8) : List UInt8 := [60] ++ hexs l ++ [64, 104, 97, 115, 104, 62]
theorem idt_len (l : List UInt8) : (idt l).length = 2 * l.length + 7 := by simp [idt, hexs_len]

theorem refPrint_c (id : B 32) (w : World) : Calls Tryz.prog 38 [.agg (flat [id.seg])].toArray w fun e w' => e = .returned (str (idt id.l)) ∧ Keeps none1 w w' := by
 have hl := hexs_len id.l
 rw [id.h] at hl
 refine aJ (n := 7) (W := SL.none1) (m := []) Tryz.func38 O Tryz.ntmps38 O (aO _ _ _) ?_
 simp only [SL.enum, Nat.reduceAdd]
 refine ah fun K1 hK1 => aj (am O (bh _ O O O O O) ?_)
 intro b1 _
 try simp only [setN, putD, selM, nth, cw, cx]
 refine aa O O O (ak O O) (ai ?_)
 refine ae (hK1 _ _ ?_)
 refine ah fun K2 hK2 => aj (aa O O O (by first | exact ay 0 (k := 32) O O O (by kernel_rfl) O (by kernel_rfl)) ?_)
 refine am O (aN O O (by kernel_rfl) O O (fun w hM hK => refHex_c id w)) ?_
 intro _ _
 try simp only [setN, putD, selM, nth, cw, cx]
 refine aa O O O (ba O (show _ = some (str [60]) from O) O (by simp; omega)) ?_
 refine aa O O O (ba O O (show _ = some (str [64, 104, 97, 115, 104, 62]) from O) (by simp; omega)) ?_
 refine aa O O O (ak O O) (ai ?_)
 refine ae (hK2 _ _ ?_)
 refine aw av (ar O (.cons (.tmp O) .nil) O) (fun w' hM' hK' => ?_)
 exact ⟨rfl, hK'⟩

def msgM (id : B 32) : List UInt8 := if id = B.zero 32 then [] else idt id.l
theorem refMessage_c (id : B 32) (w : World) : Calls Tryz.prog 24 [.agg (flat [id.seg])].toArray w fun e w' => e = .returned (str (msgM id)) ∧ Keeps none1 w w' := by
 refine aJ (n := 8) (W := SL.none1) (m := []) Tryz.func24 O Tryz.ntmps24 O (aO _ _ _) ?_
 simp only [SL.enum, Nat.reduceAdd]
 refine ah fun K1 hK1 => aj (am O (bh _ O O O O O) ?_)
 intro b1 _
 try simp only [setN, putD, selM, nth, cw, cx]
 refine aa O O O (ak O O) (ai ?_)
 refine ae (hK1 _ _ ?_)
 refine ah fun K2 hK2 => ah fun K3 hK3 => aj (aa O O O (by first | exact ay 0 (k := 32) O O O (by kernel_rfl) O (by kernel_rfl)) ?_)
 refine aa O O O (bg [(0, 1), (1, 1), (2, 1), (3, 1), (4, 1), (5, 1), (6, 1), (7, 1), (8, 1), (9, 1), (10, 1), (11, 1), (12, 1), (13, 1), (14, 1), (15, 1), (16, 1), (17, 1), (18, 1), (19, 1), (20, 1), (21, 1), (22, 1), (23, 1), (24, 1), (25, 1), (26, 1), (27, 1), (28, 1), (29, 1), (30, 1), (31, 1)] [(B.zero 32).seg] O O .nil (by kernel_rfl) (by kernel_rfl) O) ?_
 refine aa O O O (SL.Pure.eqB O O O Tryz.underlying26 Tryz.underlying5 (by kernel_rfl) (by kernel_rfl)) ?_
 refine ai (ae ?_)
 refine hK3 _ _ (aH O (fun hc5 => ?_) (fun hc5 => ?_))
 ·
  have hz : id = B.zero 32 := by simpa using hc5
  refine ah fun K4 hK4 => aj (aa O O O (ak O O) ?_)
  refine ai (ae ?_)
  refine hK4 _ _ (aw (aB av) (ar O (.cons (.tmp O) .nil) O) (fun w' hM' hK' => ?_))
  exact ⟨by simp only [msgM, hz, if_true, if_false]; rfl, hK'⟩
 ·
  have hz : ¬ id = B.zero 32 := by simpa using hc5
  refine aC (ae ?_)
  refine hK2 _ _ (ah fun K5 hK5 => ?_)
  refine aj (aa O O O (by first | exact ay 0 (k := 32) O O O (by kernel_rfl) O (by kernel_rfl)) ?_)
  refine am O (aN O O (by kernel_rfl) O O (fun w hM hK => refPrint_c id w)) ?_
  intro _ _
  try simp only [setN, putD, selM, nth, cw, cx]
  refine aa O O O (ak O O) (ai ?_)
  refine ae (hK5 _ _ ?_)
  refine aw av (ar O (.cons (.tmp O) .nil) O) (fun w' hM' hK' => ?_)
  exact ⟨by simp only [msgM, hz, if_true, if_false]; rfl, hK'⟩

theorem refAuthor_c (id : B 16) (w : World) : Calls Tryz.prog 21 [.agg (flat [id.seg])].toArray w fun e w' => e = .returned (str (hexs id.l)) ∧ Keeps none1 w w' := by
 refine aJ (n := 36) (W := SL.none1) (m := []) Tryz.func21 O Tryz.ntmps21 O (aO _ _ _) ?_
 simp only [SL.enum, Nat.reduceAdd]
 refine ah fun K1 hK1 => aj (am O (bh _ O O O O O) ?_)
 intro b1 _
 try simp only [setN, putD, selM, nth, cw, cx]
 refine aa O O O (ak O O) (ai ?_)
 refine ae (hK1 _ _ ?_)
 refine ah fun K2 hK2 => aj (aa O O O (ak O O) ?_)
 refine ai (ae ?_)
 refine hK2 _ _ (ah fun K3 hK3 => ?_)
 refine aj (aa O O O (ak O O) ?_)
 refine ai (ae ?_)
 refine hK3 _ _ (ah fun K4 hK4 => ?_)
 refine ah fun K5 hK5 => aj (aa O O O (ak O O) ?_)
 refine ai (ae ?_)
 refine hK5 _ _ (aK ?_)
 refine bu (X := Nat) (φ := fun i => i ≤ 16) (L := fun i => [(1, .pointer (some ⟨b1, 0, none⟩)), (3, str HX), (4, str (([] : List UInt8) ++ hexs (id.l.take i))), (5, .int .i64 i)]) (M := fun i => [.blk b1 (.cells (flat [id.seg]) 22 (0, 0))]) (μ := fun i => 16 - i) ?_ ?_
 ·
  exact fun _ _ st => ⟨0, Nat.zero_le _, st.to [0] ⟨rfl, rfl, rfl, rfl, trivial⟩ O rfl⟩
 ·
  intro i hi
  try dsimp only
  refine ah fun K6 hK6 => ah fun K7 hK7 => aj (aa O O O (af O O) ?_)
  refine aa O O O (aT O O O) (ai ?_)
  refine ae (hK7 _ _ ?_)
  refine aH O (fun hc7 => ?_) (fun hc7 => ?_)
  ·
   have hlt : i < 16 := by simp at hc7; omega
   have hli : i < id.l.length := by rw [id.h]; exact hlt
   have hc := (id.get i).toNat_lt
   have hsl := hexs_len (id.l.take i)
   rw [List.length_take] at hsl
   refine aC (ae ?_)
   refine hK6 _ _ (ah fun K8 hK8 => ?_)
   refine aK (bX 25 mixed (by kernel_rfl) O O (fun wd6 => ?_))
   refine aD O O O (af O O) (aD O O O (af O O) ?_)
   refine aD O O O (af O O) (aD O O O (bR (off' := i) (sz := 1) O O O Tryz.underlying22 (by kernel_rfl) (by omega) (by omega) (by omega)) ?_)
   refine aD O O O (ce 0 O O O (cn _ hlt) (by kernel_rfl)) ?_
   refine aD O O O (SL.Pure.quoN O O O (by omega) (by decide) (q16 _)) ?_
   refine aD O O O (af O O) (aD O O O (bR (off' := i) (sz := 1) O O O Tryz.underlying22 (by kernel_rfl) (by omega) (by omega) (by omega)) ?_)
   refine aD O O O (ce 0 O O O (cn _ hlt) (by kernel_rfl)) ?_
   refine aD O O O (SL.Pure.quoN O O O (by omega) (by decide) (q16 _)) ?_
   refine aD O O O (SL.Pure.addW O O O (a1u8 _ (by omega))) ?_
   refine aD O O O (SL.Pure.sliceS2 O (show _ = some (str HX) from O) Tryz.underlying9 O O (by omega) (by omega) (by show _ ≤ ((16 : Nat) : Int); omega) (sl16 _ (by omega))) ?_
   refine aD O O O (ba O O O (by simp; omega)) ?_
   refine aD O O O (af O O) (aD O O O (af O O) ?_)
   refine aD O O O (bR (off' := i) (sz := 1) O O O Tryz.underlying22 (by kernel_rfl) (by omega) (by omega) (by omega)) ?_
   refine aD O O O (ce 0 O O O (cn _ hlt) (by kernel_rfl)) ?_
   refine aD O O O (SL.Pure.remN (r := (((id.get i).toNat % 16 : Nat) : Int)) O O O (by omega) (by decide) (by omega)) ?_
   refine aD O O O (af O O) (aD O O O (bR (off' := i) (sz := 1) O O O Tryz.underlying22 (by kernel_rfl) (by omega) (by omega) (by omega)) ?_)
   refine aD O O O (ce 0 O O O (cn _ hlt) (by kernel_rfl)) ?_
   refine aD O O O (SL.Pure.remN (r := (((id.get i).toNat % 16 : Nat) : Int)) O O O (by omega) (by decide) (by omega)) ?_
   refine aD O O O (SL.Pure.addW O O O (a1u8 _ (by omega))) ?_
   refine aD O O O (SL.Pure.sliceS2 O (show _ = some (str HX) from O) Tryz.underlying9 O O (by omega) (by omega) (by show _ ≤ ((16 : Nat) : Int); omega) (sl16 _ (by omega))) ?_
   refine aD O O O (ba O O O (by simp; omega)) ?_
   refine bV (aa O O O (ak O O) ?_)
   refine ai ?_
   rw [show (([] : List UInt8) ++ hexs (id.l.take i) ++ [hexd ((id.get i).toNat / 16)] ++ [hexd ((id.get i).toNat % 16)]) = ([] : List UInt8) ++ hexs (id.l.take (i + 1)) by rw [hexs_step id.l i hli]; simp [SL.B.get]]
   refine aQ (ae ?_)
   refine hK8 _ _ (aj ?_)
   refine aa O O O (af O O) (aa O O O (aL O O O O (by omega) (by omega)) ?_)
   refine aa O O O (ak O O) (ai ?_)
   refine ae ?_
   exact bd (i + 1) [0] (show i + 1 ≤ 16 by omega) (show 16 - (i + 1) < 16 - i by omega) ⟨rfl, rfl, rfl, rfl, trivial⟩ O rfl
  ·
   have hie : i = 16 := by simp at hc7; omega
   subst hie
   rw [List.take_of_length_le (show id.l.length ≤ 16 by rw [id.h]; omega)]
   refine aU (aI ?_)
   refine aI (aV ?_)
   refine ae (hK4 _ _ ?_)
   refine ah fun K9 hK9 => aj (aa O O O (af O O) ?_)
   refine aa O O O (ak O O) (ai ?_)
   refine ae (hK9 _ _ ?_)
   refine aw av (ar O (.cons (.tmp O) .nil) O) (fun w' hM' hK' => ?_)
   exact ⟨rfl, hK'⟩

theorem refIdText_c (id : B 32) (w : World) : Calls Tryz.prog 36 [.agg (flat [id.seg])].toArray w fun e w' => e = .returned (str (idt id.l)) ∧ Keeps none1 w w' := by
 have hlx := hexs_len id.l
 rw [id.h] at hlx
 refine aJ (n := 37) (W := SL.none1) (m := []) Tryz.func36 O Tryz.ntmps36 O (aO _ _ _) ?_
 simp only [SL.enum, Nat.reduceAdd]
 refine ah fun K1 hK1 => aj (am O (bh _ O O O O O) ?_)
 intro b1 _
 try simp only [setN, putD, selM, nth, cw, cx]
 refine aa O O O (ak O O) (ai ?_)
 refine ae (hK1 _ _ ?_)
 refine ah fun K2 hK2 => aj (aa O O O (ak O O) ?_)
 refine ai (ae ?_)
 refine hK2 _ _ (ah fun K3 hK3 => ?_)
 refine aj (aa O O O (ak O O) ?_)
 refine ai (ae ?_)
 refine hK3 _ _ (ah fun K4 hK4 => ?_)
 refine ah fun K5 hK5 => aj (aa O O O (ak O O) ?_)
 refine ai (ae ?_)
 refine hK5 _ _ (aK ?_)
 refine bu (X := Nat) (φ := fun i => i ≤ 32) (L := fun i => [(1, .pointer (some ⟨b1, 0, none⟩)), (3, str HX), (4, str (([60] : List UInt8) ++ hexs (id.l.take i))), (5, .int .i64 i)]) (M := fun i => [.blk b1 (.cells (flat [id.seg]) 73 (0, 0))]) (μ := fun i => 32 - i) ?_ ?_
 ·
  exact fun _ _ st => ⟨0, Nat.zero_le _, st.to [0] ⟨rfl, rfl, rfl, rfl, trivial⟩ O rfl⟩
 ·
  intro i hi
  try dsimp only
  refine ah fun K6 hK6 => ah fun K7 hK7 => aj (aa O O O (af O O) ?_)
  refine aa O O O (aT O O O) (ai ?_)
  refine ae (hK7 _ _ ?_)
  refine aH O (fun hc7 => ?_) (fun hc7 => ?_)
  ·
   have hlt : i < 32 := by simp at hc7; omega
   have hli : i < id.l.length := by rw [id.h]; exact hlt
   have hc := (id.get i).toNat_lt
   have hsl := hexs_len (id.l.take i)
   rw [List.length_take] at hsl
   refine aC (ae ?_)
   refine hK6 _ _ (ah fun K8 hK8 => ?_)
   refine aK (bX 25 mixed (by kernel_rfl) O O (fun wd6 => ?_))
   refine aD O O O (af O O) (aD O O O (af O O) ?_)
   refine aD O O O (af O O) (aD O O O (bR (off' := i) (sz := 1) O O O Tryz.underlying73 (by kernel_rfl) (by omega) (by omega) (by omega)) ?_)
   refine aD O O O (ce 0 O O O (cn _ hlt) (by kernel_rfl)) ?_
   refine aD O O O (SL.Pure.quoN O O O (by omega) (by decide) (q16 _)) ?_
   refine aD O O O (af O O) (aD O O O (bR (off' := i) (sz := 1) O O O Tryz.underlying73 (by kernel_rfl) (by omega) (by omega) (by omega)) ?_)
   refine aD O O O (ce 0 O O O (cn _ hlt) (by kernel_rfl)) ?_
   refine aD O O O (SL.Pure.quoN O O O (by omega) (by decide) (q16 _)) ?_
   refine aD O O O (SL.Pure.addW O O O (a1u8 _ (by omega))) ?_
   refine aD O O O (SL.Pure.sliceS2 O (show _ = some (str HX) from O) Tryz.underlying9 O O (by omega) (by omega) (by show _ ≤ ((16 : Nat) : Int); omega) (sl16 _ (by omega))) ?_
   refine aD O O O (ba O O O (by simp; omega)) ?_
   refine aD O O O (af O O) (aD O O O (af O O) ?_)
   refine aD O O O (bR (off' := i) (sz := 1) O O O Tryz.underlying73 (by kernel_rfl) (by omega) (by omega) (by omega)) ?_
   refine aD O O O (ce 0 O O O (cn _ hlt) (by kernel_rfl)) ?_
   refine aD O O O (SL.Pure.remN (r := (((id.get i).toNat % 16 : Nat) : Int)) O O O (by omega) (by decide) (by omega)) ?_
   refine aD O O O (af O O) (aD O O O (bR (off' := i) (sz := 1) O O O Tryz.underlying73 (by kernel_rfl) (by omega) (by omega) (by omega)) ?_)
   refine aD O O O (ce 0 O O O (cn _ hlt) (by kernel_rfl)) ?_
   refine aD O O O (SL.Pure.remN (r := (((id.get i).toNat % 16 : Nat) : Int)) O O O (by omega) (by decide) (by omega)) ?_
   refine aD O O O (SL.Pure.addW O O O (a1u8 _ (by omega))) ?_
   refine aD O O O (SL.Pure.sliceS2 O (show _ = some (str HX) from O) Tryz.underlying9 O O (by omega) (by omega) (by show _ ≤ ((16 : Nat) : Int); omega) (sl16 _ (by omega))) ?_
   refine aD O O O (ba O O O (by simp; omega)) ?_
   refine bV (aa O O O (ak O O) ?_)
   refine ai ?_
   rw [show (([60] : List UInt8) ++ hexs (id.l.take i) ++ [hexd ((id.get i).toNat / 16)] ++ [hexd ((id.get i).toNat % 16)]) = ([60] : List UInt8) ++ hexs (id.l.take (i + 1)) by rw [hexs_step id.l i hli]; simp [SL.B.get]]
   refine aQ (ae ?_)
   refine hK8 _ _ (aj ?_)
   refine aa O O O (af O O) (aa O O O (aL O O O O (by omega) (by omega)) ?_)
   refine aa O O O (ak O O) (ai ?_)
   refine ae ?_
   exact bd (i + 1) [0] (show i + 1 ≤ 32 by omega) (show 32 - (i + 1) < 32 - i by omega) ⟨rfl, rfl, rfl, rfl, trivial⟩ O rfl
  ·
   have hie : i = 32 := by simp at hc7; omega
   subst hie
   rw [List.take_of_length_le (show id.l.length ≤ 32 by rw [id.h]; omega)]
   refine aU (aI ?_)
   refine aI (aV ?_)
   refine ae (hK4 _ _ ?_)
   refine ah fun K9 hK9 => aj (aa O O O (af O O) ?_)
   refine aa O O O (ba O O (show _ = some (str [64, 104, 97, 115, 104, 62]) from O) (by simp; omega)) ?_
   refine aa O O O (ak O O) (ai ?_)
   refine ae (hK9 _ _ ?_)
   refine aw av (ar O (.cons (.tmp O) .nil) O) (fun w' hM' hK' => ?_)
   exact ⟨rfl, hK'⟩

/-! ### Decimal -/
theorem dec_small {u : Nat} (h : u < 10) : Lib.decDigits u = [UInt8.ofNat (48 + u)] := by rw [Lib.decDigits, dif_pos h]
theorem dec_big {u : Nat} (h : ¬ u < 10) : Lib.decDigits u = Lib.decDigits (u / 10) ++ [UInt8.ofNat (48 + u % 10)] := by rw [Lib.decDigits, dif_neg h]
theorem dec_len : ∀ (k u : Nat), u < 10 ^ (k + 1) → (Lib.decDigits u).length ≤ k + 1
 | 0, u, h => by rw [dec_small (by omega)]; simp
 | k + 1, u, h => by
  by_cases h1 : u < 10
  ·
   rw [dec_small h1]; simp
  ·
   rw [dec_big h1, List.length_append]
   have := dec_len k (u / 10) (by rw [Nat.pow_succ] at h; omega)
   simp; omega

theorem plain_c : ∀ (u : Nat) (w : World), u < 18446744073709551616 → Calls Tryz.prog 37 [.int .u64 u].toArray w fun e w' => e = .returned (str (Lib.decDigits u)) ∧ Keeps none1 w w' := by
 intro u
 induction u using Nat.strongRecOn with
 | _ u ih =>
 intro w hu
 have hdl := dec_len 19 u (by omega)
 by_cases h : u < 10
 ·
  rw [dec_small h]
  refine aJ (n := 20) (W := SL.none1) (m := []) Tryz.func37 O Tryz.ntmps37 O (aO _ _ _) ?_
  simp only [SL.enum, Nat.reduceAdd]
  refine ah fun K1 hK1 => aj (aa O O O (ak O O) ?_)
  refine ai (ae ?_)
  refine hK1 _ _ (ah fun K2 hK2 => ?_)
  refine ah fun K3 hK3 => aj (aa O O O (af O O) ?_)
  refine aa O O O (aT O O O) (ai ?_)
  refine ae (hK3 _ _ ?_)
  refine SL.Ok.condT' O (by simp; omega) ?_
  refine ah fun K4 hK4 => aj (aa O O O (af O O) ?_)
  refine aa O O O (SL.Pure.addW (r := ((48 + u : Nat) : Int)) O O O (by rw [IntKind.wrap_u64]; omega)) ?_
  refine aa O O O (bT (r := ((UInt8.ofNat (48 + u)).toNat : Int)) O O (by kernel_rfl) Tryz.underlying5 (by rw [IntKind.wrap_u8, UInt8.toNat_ofNat']; omega)) ?_
  refine am O (by exact bW #[.int .u8 0] [.int .u8 (UInt8.ofNat (48 + u)).toNat] O O Tryz.underlying52 (by kernel_rfl) (by kernel_rfl) O (by decide) O O) ?_
  intro g8 _
  try simp only [setN, putD, selM, nth, cw, cx]
  refine aa O O O (SL.Pure.bytesStr (v := [UInt8.ofNat (48 + u)]) O O Tryz.underlying52 Tryz.underlying9 Tryz.underlying5 (fun w' hM _ => bK (i := 0) O hM)) (aa O O O (ak O O) ?_)
  refine ai (ae ?_)
  refine hK4 _ _ (aw (aB av) (ar O (.cons (.tmp O) .nil) O) (fun w' hM' hK' => ?_))
  exact ⟨rfl, hK'⟩
 ·
  have e := dec_big h
  have hdl2 := dec_len 19 (u / 10) (by omega)
  rw [e]
  refine aJ (n := 20) (W := SL.none1) (m := []) Tryz.func37 O Tryz.ntmps37 O (aO _ _ _) ?_
  simp only [SL.enum, Nat.reduceAdd]
  refine ah fun K1 hK1 => aj (aa O O O (ak O O) ?_)
  refine ai (ae ?_)
  refine hK1 _ _ (ah fun K2 hK2 => ?_)
  refine ah fun K3 hK3 => aj (aa O O O (af O O) ?_)
  refine aa O O O (aT O O O) (ai ?_)
  refine ae (hK3 _ _ ?_)
  refine cf O (by simp; omega) ?_
  refine aC (ae ?_)
  refine hK2 _ _ (ah fun K4 hK4 => ?_)
  refine ck [] mixed O O ?_
  simp only [List.replicate, List.length_cons, List.length_nil, Nat.reduceAdd, SL.selM, SL.nth]
  refine aG 0 O O O O (by kernel_rfl) (by kernel_rfl) (by kernel_rfl) O (fun _ _ _ h => h) [] O O (af O O) ?_
  refine aG 1 O O O O (by kernel_rfl) (by kernel_rfl) (by kernel_rfl) O (fun _ _ _ h => h) [] O O (SL.Pure.quoN (r := ((u / 10 : Nat) : Int)) O O O (by omega) (by decide) (by rw [IntKind.wrap_u64]; omega)) ?_
  refine aG 3 O O O O (by kernel_rfl) (by kernel_rfl) (by kernel_rfl) O (fun _ _ _ h => h) [] O O (af O O) ?_
  refine aG 4 O O O O (by kernel_rfl) (by kernel_rfl) (by kernel_rfl) O (fun _ _ _ h => h) [] O O (SL.Pure.remN (r := ((u % 10 : Nat) : Int)) O O O (by omega) (by decide) (by omega)) ?_
  refine aG 5 O O O O (by kernel_rfl) (by kernel_rfl) (by kernel_rfl) O (fun _ _ _ h => h) [] O O (SL.Pure.addW (r := ((48 + u % 10 : Nat) : Int)) O O O (by rw [IntKind.wrap_u64]; omega)) ?_
  refine aG 6 O O O O (by kernel_rfl) (by kernel_rfl) (by kernel_rfl) O (fun _ _ _ h => h) [] O O (bT (r := ((UInt8.ofNat (48 + u % 10)).toNat : Int)) O O (by kernel_rfl) Tryz.underlying5 (by rw [IntKind.wrap_u8, UInt8.toNat_ofNat']; omega)) ?_
  refine SL.OkH.eff2 2 7 O O O O (by kernel_rfl) O O [] (fun _ => rfl) O (bJ O (aN O O (by kernel_rfl) O O (fun w hM hK => ih (u / 10) (by omega) w (by omega)))) [] (fun _ => rfl) O (by exact bW #[.int .u8 0] [.int .u8 (UInt8.ofNat (48 + u % 10)).toNat] O O Tryz.underlying52 (by kernel_rfl) (by kernel_rfl) O (by decide) O O) ?_ ?_
  ·
   intro _ _
   try simp only [setN, putD, selM, nth, cw, cx]
   refine aY 7 O O (by kernel_rfl) O [] (fun _ => rfl) O (by exact bW #[.int .u8 0] [.int .u8 (UInt8.ofNat (48 + u % 10)).toNat] O O Tryz.underlying52 (by kernel_rfl) (by kernel_rfl) O (by decide) O O) ?_
   intro g17 _
   try simp only [setN, putD, selM, nth, cw, cx]
   refine aY 8 O O (by kernel_rfl) O [] (fun _ => rfl) O (bZ O O (SL.Pure.bytesStr (v := [UInt8.ofNat (48 + u % 10)]) O O Tryz.underlying52 Tryz.underlying9 Tryz.underlying5 (fun w' hM _ => bK (i := 0) O hM))) ?_
   intro _ _
   refine aG 9 O O O O (by kernel_rfl) (by kernel_rfl) (by kernel_rfl) O (fun _ _ _ h => h) [] O O (ba O O O (by simp; omega)) ?_
   refine aG 10 O O O O (by kernel_rfl) (by kernel_rfl) (by kernel_rfl) O (fun _ _ _ h => h) [] O O (ak O O) ?_
   refine bN (by kernel_rfl) ?_
   refine ae (hK4 _ _ ?_)
   refine aw av (ar O (.cons (.tmp O) .nil) O) (fun w' hM' hK' => ?_)
   exact ⟨rfl, hK'⟩
  ·
   intro g17 _
   try simp only [setN, putD, selM, nth, cw, cx]
   refine SL.OkH.eff2 2 8 O O O O (by kernel_rfl) O O [] (fun _ => rfl) O (bJ O (aN O O (by kernel_rfl) O O (fun w hM hK => ih (u / 10) (by omega) w (by omega)))) [] (fun _ => rfl) O (bZ O O (SL.Pure.bytesStr (v := [UInt8.ofNat (48 + u % 10)]) O O Tryz.underlying52 Tryz.underlying9 Tryz.underlying5 (fun w' hM _ => bK (i := 0) O hM))) ?_ ?_
   ·
    intro _ _
    try simp only [setN, putD, selM, nth, cw, cx]
    refine aY 8 O O (by kernel_rfl) O [] (fun _ => rfl) O (bZ O O (SL.Pure.bytesStr (v := [UInt8.ofNat (48 + u % 10)]) O O Tryz.underlying52 Tryz.underlying9 Tryz.underlying5 (fun w' hM _ => bK (i := 0) O hM))) ?_
    intro _ _
    refine aG 9 O O O O (by kernel_rfl) (by kernel_rfl) (by kernel_rfl) O (fun _ _ _ h => h) [] O O (ba O O O (by simp; omega)) ?_
    refine aG 10 O O O O (by kernel_rfl) (by kernel_rfl) (by kernel_rfl) O (fun _ _ _ h => h) [] O O (ak O O) ?_
    refine bN (by kernel_rfl) ?_
    refine ae (hK4 _ _ ?_)
    refine aw av (ar O (.cons (.tmp O) .nil) O) (fun w' hM' hK' => ?_)
    exact ⟨rfl, hK'⟩
   ·
    intro _ _
    try simp only [setN, putD, selM, nth, cw, cx]
    refine aY 2 O O (by kernel_rfl) O [] (fun _ => rfl) O (bJ O (aN O O (by kernel_rfl) O O (fun w hM hK => ih (u / 10) (by omega) w (by omega)))) ?_
    intro _ _
    try simp only [setN, putD, selM, nth, cw, cx]
    refine aG 9 O O O O (by kernel_rfl) (by kernel_rfl) (by kernel_rfl) O (fun _ _ _ h => h) [] O O (ba O O O (by simp; omega)) ?_
    refine aG 10 O O O O (by kernel_rfl) (by kernel_rfl) (by kernel_rfl) O (fun _ _ _ h => h) [] O O (ak O O) ?_
    refine bN (by kernel_rfl) ?_
    refine ae (hK4 _ _ ?_)
    refine aw av (ar O (.cons (.tmp O) .nil) O) (fun w' hM' hK' => ?_)
    exact ⟨rfl, hK'⟩
end Go.Proofs.YthfhhkanpnemcaaGreatDoor
namespace Go.Proofs.YthfhhkanpnemcaaGreatDoor
open Go.SL Go.RowKit IntWalk
set_option linter.unusedVariables false
set_option maxRecDepth 100000
set_option linter.unusedSimpArgs false
set_option maxHeartbeats 400000

theorem refDigits_c (n : Nat) (hn : n ≤ 9223372036854775807) (w : World) : Calls Tryz.prog 22 [.int .i64 n].toArray w fun e w' => e = .returned (str (Lib.decDigits n)) ∧ Keeps none1 w w' := by
 refine aJ (n := 15) (W := SL.none1) (m := []) Tryz.func22 O Tryz.ntmps22 O (aO _ _ _) ?_
 simp only [SL.enum, Nat.reduceAdd]
 refine ah fun K1 hK1 => aj (aa O O O (ak O O) ?_)
 refine ai (ae ?_)
 refine hK1 _ _ (ah fun K2 hK2 => ?_)
 refine ah fun K3 hK3 => aj (aa O O O (af O O) ?_)
 refine aa O O O (aT O O O) (ai ?_)
 refine ae (hK3 _ _ ?_)
 refine cf O (by simp) ?_
 refine aC (ae ?_)
 refine hK2 _ _ (ah fun K4 hK4 => ?_)
 refine aj (aa O O O (af O O) ?_)
 refine aa O O O (bT (r := (n : Int)) O O (by kernel_rfl) Tryz.underlying75 (by rw [IntKind.wrap_u64]; omega)) ?_
 refine am O (aN O O (by kernel_rfl) O O (fun w hM hK => plain_c n w (by omega))) ?_
 intro _ _
 try simp only [setN, putD, selM, nth, cw, cx]
 refine aa O O O (ak O O) (ai ?_)
 refine ae (hK4 _ _ ?_)
 refine aw av (ar O (.cons (.tmp O) .nil) O) (fun w' hM' hK' => ?_)
 exact ⟨rfl, hK'⟩

/-- the texts up to i, with a separator between them -/
def jnA (sep : List UInt8) (xs : List (List UInt8)) : Nat → List UInt8
 | 0 => []
 | i + 1 => (if 0 < i then jnA sep xs i ++ sep else jnA sep xs i) ++ xs.getD i []
def jn (sep : List UInt8) (xs : List (List UInt8)) : List UInt8 := jnA sep xs xs.length
theorem jnA_le (sep : List UInt8) (xs : List (List UInt8)) (i : Nat) : ∀ j, i ≤ j → (jnA sep xs i).length ≤ (jnA sep xs j).length := by
 intro j
 induction j with
 | zero => intro h; (have : i = 0 := by omega); subst this; exact Nat.le_refl _
 | succ j ih =>
  intro h
  by_cases hij : i = j + 1
  ·
   subst hij; exact Nat.le_refl _
  ·
   have := ih (by omega)
   simp only [jnA]
   split <;> simp <;> omega

theorem refText_c (sep : List UInt8) (xs : List (List UInt8)) (a : Option Addr) (len cap : Nat) (hT : (jn sep xs).length ≤ 1000000000) (w : World) (hR : RC 1 w a len (xs.map str)) :
  Calls Tryz.prog 23 [.slice a len cap, str sep].toArray w fun e w' => e = .returned (str (jn sep xs)) ∧ Keeps none1 w w' := by
 obtain ⟨h1, h2, h3⟩ := hR
 have hl : xs.length = len := by simpa using h1
 subst hl
 unfold maxLen at h2
 refine aJ (n := 25) (W := SL.none1) (m := []) Tryz.func23 O Tryz.ntmps23 O (aO _ _ _) ?_
 simp only [SL.enum, Nat.reduceAdd]
 refine ah fun K1 hK1 => aj (aa O O O (ak O O) ?_)
 refine ai (ae ?_)
 refine hK1 _ _ (ah fun K2 hK2 => ?_)
 refine aj (aa O O O (ak O O) ?_)
 refine ai (ae ?_)
 refine hK2 _ _ (ah fun K3 hK3 => ?_)
 refine ah fun K4 hK4 => aj (aa O O O (ak O O) ?_)
 refine ai (ae ?_)
 refine hK4 _ _ (aK ?_)
 refine bu (X := Nat) (φ := fun i => i ≤ xs.length) (L := fun i => [(0, .slice a xs.length cap), (1, str sep), (5, str (jnA sep xs i)), (6, .int .i64 i)]) (M := fun i => []) (μ := fun i => xs.length - i) ?_ ?_
 ·
  exact fun _ _ st => ⟨0, Nat.zero_le _, st.to [] ⟨rfl, rfl, rfl, rfl, trivial⟩ O rfl⟩
 ·
  intro i hi
  try dsimp only
  refine ah fun K5 hK5 => ah fun K6 hK6 => aj (aa O O O (af O O) ?_)
  refine aa O O O (af O O) (aa O O O (bw O O O Tryz.underlying23) ?_)
  refine aa O O O (aT O O O) (ai ?_)
  refine ae (hK6 _ _ ?_)
  refine aH O (fun hc10 => ?_) (fun hc10 => ?_)
  ·
   have hlt : i < xs.length := by simp at hc10; omega
   rcases h3 with h3 | ⟨b, off, rfl, hb, hc⟩
   ·
    omega
   have hle := jnA_le sep xs (i + 1) xs.length (by omega)
   unfold jn at hT
   have hx : (xs.map str)[i]? = some (str (xs.getD i [])) := by simp [hlt]
   have hcell := hc i _ hx
   refine aC (ae ?_)
   refine hK5 _ _ (ah fun K7 hK7 => ?_)
   refine aK (ah fun K8 hK8 => ?_)
   refine ah fun K9 hK9 => aj (aa O O O (af O O) ?_)
   refine aa O O O (bH O O O) (ai ?_)
   refine ae (hK9 _ _ ?_)
   refine aH O (fun hc14 => ?_) (fun hc14 => ?_)
   ·
    have h0 : 0 < i := by simp at hc14; omega
    simp only [jnA, if_pos h0, List.length_append] at hle
    refine aj (aa O O O (af O O) ?_)
    refine aa O O O (af O O) (aa O O O (ba O O O (by omega)) ?_)
    refine aa O O O (ak O O) (ai ?_)
    refine ae (hK8 _ _ ?_)
    refine aj (aa O O O (af O O) ?_)
    refine aa O O O (af O O) (aa O O O (af O O) ?_)
    refine aa O O O (bx (sz := 1) (off' := off + i) O O O Tryz.underlying23 (by kernel_rfl) (by omega) (by omega) (by omega)) ?_
    refine aa O O O (cj hb (fun h => h) hcell O O (by kernel_rfl)) ?_
    refine aa O O O (ba O O O (by (try simp only [List.length_append]); omega)) ?_
    refine aa O O O (ak O O) (ai ?_)
    refine aQ (ae ?_)
    refine hK7 _ _ (aj ?_)
    refine aa O O O (af O O) (aa O O O (aL O O O O (by omega) (by omega)) ?_)
    refine aa O O O (ak O O) (ai ?_)
    refine ae ?_
    exact bd (i + 1) [] (show i + 1 ≤ xs.length by omega) (show xs.length - (i + 1) < xs.length - i by omega) ⟨rfl, rfl, by show _ = some (str (jnA sep xs (i + 1))); rw [jnA, if_pos h0]; rfl, rfl, trivial⟩ O rfl
   ·
    have h0 : ¬ 0 < i := by simp at hc14; omega
    simp only [jnA, if_neg h0, List.length_append] at hle
    refine aC (ae ?_)
    refine hK8 _ _ (aj ?_)
    refine aa O O O (af O O) (aa O O O (af O O) ?_)
    refine aa O O O (af O O) (aa O O O (bx (sz := 1) (off' := off + i) O O O Tryz.underlying23 (by kernel_rfl) (by omega) (by omega) (by omega)) ?_)
    refine aa O O O (cj hb (fun h => h) hcell O O (by kernel_rfl)) ?_
    refine aa O O O (ba O O O (by (try simp only [List.length_append]); omega)) ?_
    refine aa O O O (ak O O) (ai ?_)
    refine aQ (ae ?_)
    refine hK7 _ _ (aj ?_)
    refine aa O O O (af O O) (aa O O O (aL O O O O (by omega) (by omega)) ?_)
    refine aa O O O (ak O O) (ai ?_)
    refine ae ?_
    exact bd (i + 1) [] (show i + 1 ≤ xs.length by omega) (show xs.length - (i + 1) < xs.length - i by omega) ⟨rfl, rfl, by show _ = some (str (jnA sep xs (i + 1))); rw [jnA, if_neg h0]; rfl, rfl, trivial⟩ O rfl
  ·
   have hie : i = xs.length := by simp at hc10; omega
   subst hie
   refine aU (aI ?_)
   refine aI (aV ?_)
   refine ae (hK3 _ _ ?_)
   refine ah fun K10 hK10 => aj (aa O O O (af O O) ?_)
   refine aa O O O (ak O O) (ai ?_)
   refine ae (hK10 _ _ ?_)
   refine aw av (ar O (.cons (.tmp O) .nil) O) (fun w' hM' hK' => ?_)
   exact ⟨rfl, hK'⟩

/-! ### Lists of identities -/
theorem refHas_c (xs : List (B 32)) (id : B 32) (a : Option Addr) (len cap : Nat) (w : World) (hR : RC 32 w a len (idsV xs)) :
  Calls Tryz.prog 61 [.slice a len cap, .agg (flat [id.seg])].toArray w fun e w' => e = .returned (.bool (decide (id ∈ xs))) ∧ Keeps none1 w w' := by
 obtain ⟨h1, h2, h3⟩ := hR
 have hl : xs.length = len := by rw [idsV_len] at h1; omega
 subst hl
 unfold maxLen at h2
 refine aJ (n := 18) (W := SL.none1) (m := []) Tryz.func61 O Tryz.ntmps61 O (aO _ _ _) ?_
 simp only [SL.enum, Nat.reduceAdd]
 refine ah fun K1 hK1 => aj (am O (bh _ O O O O O) ?_)
 intro b3 _
 try simp only [setN, putD, selM, nth, cw, cx]
 refine aa O O O (ak O O) (ai ?_)
 refine ae (hK1 _ _ ?_)
 refine ah fun K2 hK2 => ah fun K3 hK3 => aj (aa O O O (ak O O) ?_)
 refine ai (ae ?_)
 refine hK3 _ _ (aK ?_)
 refine bu (X := Nat) (φ := fun i => i ≤ xs.length ∧ id ∉ xs.take i) (L := fun i => [(0, .slice a xs.length cap), (3, .pointer (some ⟨b3, 0, none⟩)), (5, .int .i64 i)]) (M := fun i => [.blk b3 (.cells (flat [id.seg]) 73 (0, 0))]) (μ := fun i => xs.length - i) ?_ ?_
 ·
  exact fun _ _ st => ⟨0, ⟨Nat.zero_le _, by simp⟩, st.to [0] ⟨rfl, rfl, rfl, trivial⟩ O rfl⟩
 ·
  intro i ⟨hi, hno⟩
  try dsimp only
  refine ah fun K4 hK4 => ah fun K5 hK5 => aj (aa O O O (af O O) ?_)
  refine aa O O O (af O O) (aa O O O (bw O O O Tryz.underlying57) ?_)
  refine aa O O O (aT O O O) (ai ?_)
  refine ae (hK5 _ _ ?_)
  refine aH O (fun hc9 => ?_) (fun hc9 => ?_)
  ·
   have hlt : i < xs.length := by simp at hc9; omega
   rcases h3 with h3 | ⟨b, off, rfl, hb, hc⟩
   ·
    omega
   have hx : xs[i]? = some xs[i] := List.getElem?_eq_getElem hlt
   have hrng := RC.id hc hx
   refine aC (ae ?_)
   refine hK4 _ _ (ah fun K6 hK6 => ?_)
   refine aK (ah fun K7 hK7 => ?_)
   refine bX 5 mixed (by kernel_rfl) O O (fun wd4 => ?_)
   refine aD O O O (af O O) (aD O O O (af O O) ?_)
   refine aD O O O (bx (sz := 32) (off' := off + i * 32) O O O Tryz.underlying57 (by kernel_rfl) (by omega) (by omega) (by omega)) ?_
   refine aD O O O (SL.Pure.loadOR (k := 32) hrng hb (fun h => h) O O (by kernel_rfl) O (by kernel_rfl)) ?_
   refine aD O O O (by first | exact ay 0 (k := 32) O O O (by kernel_rfl) O (by kernel_rfl)) ?_
   refine bV (aa O O O (SL.Pure.eqB O O O Tryz.underlying73 Tryz.underlying5 (by kernel_rfl) (by kernel_rfl)) ?_)
   refine ai (ae ?_)
   refine hK7 _ _ (aH O (fun hc17 => ?_) (fun hc17 => ?_))
   ·
    have he : xs[i] = id := by simpa using hc17
    refine ah fun K8 hK8 => aj (aa O O O (ak O O) ?_)
    refine ai (ae ?_)
    refine hK8 _ _ (aw (aP (aB (aB (aP (aB av))))) (ar O (.cons (.tmp O) .nil) O) (fun w' hM' hK' => ?_))
    exact ⟨by rw [decide_eq_true (he ▸ List.getElem_mem hlt)]; rfl, hK'⟩
   ·
    have he : ¬ xs[i] = id := by simpa using hc17
    refine aC (aQ ?_)
    refine ae (hK6 _ _ ?_)
    refine aj (aa O O O (af O O) ?_)
    refine aa O O O (aL O O O O (by omega) (by omega)) ?_
    refine aa O O O (ak O O) (ai ?_)
    refine ae ?_
    exact bd (i + 1) [0] ⟨by omega, by rw [List.take_succ_eq_append_getElem hlt]; simp only [List.mem_append, List.mem_singleton, not_or]; exact ⟨hno, fun h => he h.symm⟩⟩ (show xs.length - (i + 1) < xs.length - i by omega) ⟨rfl, rfl, rfl, trivial⟩ O rfl
  ·
   have hie : i = xs.length := by simp at hc9; omega
   subst hie
   rw [List.take_length] at hno
   refine aU (aI ?_)
   refine aI (aV ?_)
   refine ae (hK2 _ _ ?_)
   refine ah fun K9 hK9 => aj (aa O O O (ak O O) ?_)
   refine ai (ae ?_)
   refine hK9 _ _ (aw av (ar O (.cons (.tmp O) .nil) O) (fun w' hM' hK' => ?_))
   exact ⟨by rw [decide_eq_false hno]; rfl, hK'⟩

/-- the error of a list of ancestors -/
def rck : List (B 32) → List (B 32) → Int
 | _, [] => 0
 | seen, x :: t => if x = B.zero 32 then 1 else if x ∈ seen then 7 else rck (seen ++ [x]) t
def refErr (xs : List (B 32)) : Int := if 20 < xs.length then 9 else rck [] xs

theorem refCheck_c (xs : List (B 32)) (a : Option Addr) (len cap : Nat) (hcap : len ≤ cap) (w : World) (hR : RC 32 w a len (idsV xs)) :
  Calls Tryz.prog 35 [.slice a len cap].toArray w fun e w' => e = .returned (.int .i64 (refErr xs)) ∧ Keeps none1 w w' := by
 have hRR := hR
 obtain ⟨h1, h2, h3⟩ := hR
 have hl : xs.length = len := by rw [idsV_len] at h1; omega
 subst hl
 unfold maxLen at h2
 refine aJ (n := 27) (W := SL.none1) (m := []) Tryz.func35 O Tryz.ntmps35 O (aO _ _ _) ?_
 simp only [SL.enum, Nat.reduceAdd]
 refine ah fun K1 hK1 => aj (aa O O O (ak O O) ?_)
 refine ai (ae ?_)
 refine hK1 _ _ (ah fun K2 hK2 => ?_)
 refine ah fun K3 hK3 => aj (aa O O O (af O O) ?_)
 refine aa O O O (bw O O O Tryz.underlying57) (aa O O O (bH O O O) ?_)
 refine ai (ae ?_)
 refine hK3 _ _ (aH O (fun hc6 => ?_) (fun hc6 => ?_))
 ·
  have hgt : 20 < xs.length := by simp at hc6; omega
  refine ah fun K4 hK4 => aj (aa O O O (ak O O) ?_)
  refine ai (ae ?_)
  refine hK4 _ _ (aw (aB av) (ar O (.cons (.tmp O) .nil) O) (fun w' hM' hK' => ?_))
  exact ⟨by rw [refErr, if_pos hgt]; rfl, hK'⟩
 ·
  have hgt : ¬ 20 < xs.length := by simp at hc6; omega
  refine aC (ae ?_)
  refine hK2 _ _ (ah fun K5 hK5 => ?_)
  refine ah fun K6 hK6 => aj (aa O O O (ak O O) ?_)
  refine ai (ae ?_)
  refine hK6 _ _ (aK ?_)
  refine bu (X := Nat) (φ := fun i => i ≤ xs.length ∧ rck (xs.take i) (xs.drop i) = rck [] xs) (L := fun i => [(0, .slice a xs.length cap), (3, .int .i64 i)]) (M := fun i => []) (μ := fun i => xs.length - i) ?_ ?_
  ·
   exact fun _ _ st => ⟨0, ⟨Nat.zero_le _, by simp⟩, st.to [] ⟨rfl, rfl, trivial⟩ O rfl⟩
  ·
   intro i ⟨hi, hrk⟩
   try dsimp only
   refine ah fun K7 hK7 => ah fun K8 hK8 => aj (aa O O O (af O O) ?_)
   refine aa O O O (af O O) (aa O O O (bw O O O Tryz.underlying57) ?_)
   refine aa O O O (aT O O O) (ai ?_)
   refine ae (hK8 _ _ ?_)
   refine aH O (fun hc10 => ?_) (fun hc10 => ?_)
   ·
    have hlt : i < xs.length := by simp at hc10; omega
    rcases h3 with h3 | ⟨b, off, rfl, hb, hc⟩
    ·
     omega
    have hx : xs[i]? = some xs[i] := List.getElem?_eq_getElem hlt
    have hrng := RC.id hc hx
    have hdr : xs.drop i = xs[i] :: xs.drop (i + 1) := List.drop_eq_getElem_cons hlt
    rw [hdr, rck] at hrk
    refine aC (ae ?_)
    refine hK7 _ _ (ah fun K9 hK9 => ?_)
    refine aK (ah fun K10 hK10 => ?_)
    refine ah fun K11 hK11 => aj (aa O O O (af O O) ?_)
    refine aa O O O (af O O) (aa O O O (bx (sz := 32) (off' := off + i * 32) O O O Tryz.underlying57 (by kernel_rfl) (by omega) (by omega) (by omega)) ?_)
    refine aa O O O (SL.Pure.loadOR (k := 32) hrng hb (fun h => h) O O (by kernel_rfl) O (by kernel_rfl)) ?_
    refine aa O O O (bg [(0, 1), (1, 1), (2, 1), (3, 1), (4, 1), (5, 1), (6, 1), (7, 1), (8, 1), (9, 1), (10, 1), (11, 1), (12, 1), (13, 1), (14, 1), (15, 1), (16, 1), (17, 1), (18, 1), (19, 1), (20, 1), (21, 1), (22, 1), (23, 1), (24, 1), (25, 1), (26, 1), (27, 1), (28, 1), (29, 1), (30, 1), (31, 1)] [(B.zero 32).seg] O O .nil (by kernel_rfl) (by kernel_rfl) O) ?_
    refine aa O O O (SL.Pure.eqB O O O Tryz.underlying73 Tryz.underlying5 (by kernel_rfl) (by kernel_rfl)) ?_
    refine ai (ae ?_)
    refine hK11 _ _ (aH O (fun hc18 => ?_) (fun hc18 => ?_))
    ·
     have he : xs[i] = B.zero 32 := by simpa using hc18
     rw [if_pos he] at hrk
     refine ah fun K12 hK12 => aj (aa O O O (ak O O) ?_)
     refine ai (ae ?_)
     refine hK12 _ _ (aw (aB (aP (aB (aB (aP (aB av)))))) (ar O (.cons (.tmp O) .nil) O) (fun w' hM' hK' => ?_))
     exact ⟨by rw [refErr, if_neg hgt, ← hrk]; rfl, hK'⟩
    ·
     have he : ¬ xs[i] = B.zero 32 := by simpa using hc18
     rw [if_neg he] at hrk
     refine aC (ae ?_)
     refine hK10 _ _ (ah fun K13 hK13 => ?_)
     refine bX 7 mixed (by kernel_rfl) O O (fun wd8 => ?_)
     refine aD O O O (af O O) (aD O O O (af O O) ?_)
     refine aD O O O (SL.Pure.sliceTo (sz := 32) (o' := off) (len' := i) (cap' := cap) O O Tryz.underlying57 (by kernel_rfl) O O (by omega) (by omega) (by omega) (by omega) (by split <;> simp) (by omega) (by omega)) ?_
     refine aD O O O (af O O) (aD O O O (af O O) ?_)
     refine aD O O O (bx (sz := 32) (off' := off + i * 32) O O O Tryz.underlying57 (by kernel_rfl) (by omega) (by omega) (by omega)) ?_
     refine aD O O O (SL.Pure.loadOR (k := 32) hrng hb (fun h => h) O O (by kernel_rfl) O (by kernel_rfl)) ?_
     refine bV (am O (aN O O (by kernel_rfl) O O (fun w hM hK => refHas_c (xs.take i) xs[i] (some ⟨b, off, none⟩) i cap w (by have hp := (hRR.keep hK).part (i := 0) (j := i) (Nat.zero_le _) (by omega); rw [Nat.zero_mul, Nat.add_zero, List.drop_zero, Nat.sub_zero, idsV_take] at hp; exact hp))) ?_)
     intro _ _
     try simp only [setN, putD, selM, nth, cw, cx]
     refine ai (ae ?_)
     refine hK13 _ _ (aH O (fun hc26 => ?_) (fun hc26 => ?_))
     ·
      have hm : xs[i] ∈ xs.take i := by simpa using hc26
      rw [if_pos hm] at hrk
      refine ah fun K14 hK14 => aj (aa O O O (ak O O) ?_)
      refine ai (ae ?_)
      refine hK14 _ _ (aw (aP (aB (aB (aP (aB av))))) (ar O (.cons (.tmp O) .nil) O) (fun w' hM' hK' => ?_))
      exact ⟨by rw [refErr, if_neg hgt, ← hrk]; rfl, hK'⟩
     ·
      have hm : xs[i] ∉ xs.take i := by simpa using hc26
      rw [if_neg hm] at hrk
      refine aC (aQ ?_)
      refine ae (hK9 _ _ ?_)
      refine aj (aa O O O (af O O) ?_)
      refine aa O O O (aL O O O O (by omega) (by omega)) ?_
      refine aa O O O (ak O O) (ai ?_)
      refine ae ?_
      exact bd (i + 1) [] ⟨by omega, by rw [← hrk, List.take_succ_eq_append_getElem hlt]⟩ (show xs.length - (i + 1) < xs.length - i by omega) ⟨rfl, rfl, trivial⟩ O rfl
   ·
    have hie : i = xs.length := by simp at hc10; omega
    subst hie
    rw [List.drop_length] at hrk
    refine aU (aI ?_)
    refine aI (aV ?_)
    refine ae (hK5 _ _ ?_)
    refine ah fun K15 hK15 => aj (aa O O O (ak O O) ?_)
    refine ai (ae ?_)
    refine hK15 _ _ (aw av (ar O (.cons (.tmp O) .nil) O) (fun w' hM' hK' => ?_))
    exact ⟨by rw [refErr, if_neg hgt, ← hrk]; rfl, hK'⟩
end Go.Proofs.YthfhhkanpnemcaaGreatDoor
namespace Go.Proofs.YthfhhkanpnemcaaGreatDoor
open Go.SL Go.RowKit IntWalk
set_option linter.unusedVariables false
set_option maxRecDepth 100000
set_option linter.unusedSimpArgs false
set_option maxHeartbeats 400000

abbrev idTs (xs : List (B 32)) : List (List UInt8) := xs.map fun b => idt b.l
def prM (xs : List (B 32)) : List UInt8 := jn [32] (idTs xs)
theorem idTs_get (xs : List (B 32)) (i : Nat) (h : i < xs.length) : (idTs xs).getD i [] = idt xs[i].l := by simp [idTs, h]
theorem jnA_bound (xs : List (B 32)) : ∀ i, i ≤ xs.length → (jnA [32] (idTs xs) i).length ≤ 72 * i
 | 0, _ => by simp [jnA]
 | i + 1, h => by
  have := jnA_bound xs i (by omega)
  have h2 := idt_len xs[i].l
  rw [xs[i].h] at h2
  rw [jnA, idTs_get xs i (by omega)]
  split <;> simp <;> omega
theorem refErr_len {xs : List (B 32)} (h : refErr xs = 0) : xs.length ≤ 20 := by
 unfold refErr at h
 split at h
 ·
  cases h
 ·
  omega

theorem refPrintL_c (xs : List (B 32)) (a : Option Addr) (len cap : Nat) (hcap : len ≤ cap) (w : World) (hR : RC 32 w a len (idsV xs)) :
  Calls Tryz.prog 19 [.slice a len cap].toArray w fun e w' => e = .returned (.tuple #[str (if refErr xs = 0 then prM xs else []), .int .i64 (refErr xs)]) ∧ Keeps none1 w w' := by
 have hRR := hR
 obtain ⟨h1, h2, h3⟩ := hR
 have hl : xs.length = len := by rw [idsV_len] at h1; omega
 subst hl
 unfold maxLen at h2
 refine aJ (n := 30) (W := SL.none1) (m := []) Tryz.func19 O Tryz.ntmps19 O (aO _ _ _) ?_
 simp only [SL.enum, Nat.reduceAdd]
 refine ah fun K1 hK1 => aj (aa O O O (ak O O) ?_)
 refine aa O O O (ak O O) (ai ?_)
 refine ae (hK1 _ _ ?_)
 refine ah fun K2 hK2 => ah fun K3 hK3 => aj (aa O O O (af O O) ?_)
 refine am O (aN O O (by kernel_rfl) O O (fun w hM hK => refCheck_c xs a xs.length cap hcap w (hRR.keep hK))) ?_
 intro _ _
 try simp only [setN, putD, selM, nth, cw, cx]
 refine aa O O O (ak O O) (ai ?_)
 refine ae (hK3 _ _ ?_)
 refine ah fun K4 hK4 => aj (aa O O O (af O O) ?_)
 refine aa O O O (bl O O O) (ai ?_)
 refine ae (hK4 _ _ ?_)
 refine aH O (fun hc10 => ?_) (fun hc10 => ?_)
 ·
  have he : ¬ refErr xs = 0 := by simpa using hc10
  refine ah fun K5 hK5 => aj (aa O O O (af O O) ?_)
  refine aa O O O (ak O O) (aa O O O (ak O O) ?_)
  refine ai (ae ?_)
  refine hK5 _ _ (aw (aB av) (ar O (.cons (.tmp O) (.cons (.tmp O) .nil)) O) (fun w' hM' hK' => ?_))
  exact ⟨by rw [if_neg he]; rfl, hK'⟩
 ·
  have he : refErr xs = 0 := by simpa using hc10
  have h20 := refErr_len he
  refine aC (ae ?_)
  refine hK2 _ _ (ah fun K6 hK6 => ?_)
  refine aj (aa O O O (ak O O) ?_)
  refine ai (ae ?_)
  refine hK6 _ _ (ah fun K7 hK7 => ?_)
  refine ah fun K8 hK8 => aj (aa O O O (ak O O) ?_)
  refine ai (ae ?_)
  refine hK8 _ _ (aK ?_)
  refine bu (X := Nat) (φ := fun i => i ≤ xs.length) (L := fun i => [(0, .slice a xs.length cap), (5, str (jnA [32] (idTs xs) i)), (6, .int .i64 i)]) (M := fun i => []) (μ := fun i => xs.length - i) ?_ ?_
  ·
   exact fun _ _ st => ⟨0, Nat.zero_le _, st.to [] ⟨rfl, rfl, rfl, trivial⟩ O rfl⟩
  ·
   intro i hi
   try dsimp only
   refine ah fun K9 hK9 => ah fun K10 hK10 => aj (aa O O O (af O O) ?_)
   refine aa O O O (af O O) (aa O O O (bw O O O Tryz.underlying57) ?_)
   refine aa O O O (aT O O O) (ai ?_)
   refine ae (hK10 _ _ ?_)
   refine aH O (fun hc15 => ?_) (fun hc15 => ?_)
   ·
    have hlt : i < xs.length := by simp at hc15; omega
    rcases h3 with h3 | ⟨b, off, rfl, hb, hc⟩
    ·
     omega
    have hx : xs[i]? = some xs[i] := List.getElem?_eq_getElem hlt
    have hrng := RC.id hc hx
    have hbd := jnA_bound xs i hi
    have hil := idt_len xs[i].l
    rw [xs[i].h] at hil
    refine aC (ae ?_)
    refine hK9 _ _ (ah fun K11 hK11 => ?_)
    refine aK (ah fun K12 hK12 => ?_)
    refine ah fun K13 hK13 => aj (aa O O O (af O O) ?_)
    refine aa O O O (bH O O O) (ai ?_)
    refine ae (hK13 _ _ ?_)
    refine aH O (fun hc19 => ?_) (fun hc19 => ?_)
    ·
     have h0 : 0 < i := by simp at hc19; omega
     refine aj (aa O O O (af O O) ?_)
     refine aa O O O (ba O O (show _ = some (str [32]) from O) (by simp; omega)) ?_
     refine aa O O O (ak O O) (ai ?_)
     refine ae (hK12 _ _ ?_)
     refine aj (aa O O O (af O O) ?_)
     refine aa O O O (af O O) (aa O O O (af O O) ?_)
     refine aa O O O (bx (sz := 32) (off' := off + i * 32) O O O Tryz.underlying57 (by kernel_rfl) (by omega) (by omega) (by omega)) ?_
     refine aa O O O (SL.Pure.loadOR (k := 32) hrng hb (fun h => h) O O (by kernel_rfl) O (by kernel_rfl)) ?_
     refine am O (aN O O (by kernel_rfl) O O (fun w hM hK => refIdText_c xs[i] w)) ?_
     intro _ _
     try simp only [setN, putD, selM, nth, cw, cx]
     refine aa O O O (ba O O O (by (try simp only [List.length_append, List.length_singleton]); omega)) ?_
     refine aa O O O (ak O O) (ai ?_)
     refine aQ (ae ?_)
     refine hK11 _ _ (aj ?_)
     refine aa O O O (af O O) (aa O O O (aL O O O O (by omega) (by omega)) ?_)
     refine aa O O O (ak O O) (ai ?_)
     refine ae ?_
     exact bd (i + 1) [] (show i + 1 ≤ xs.length by omega) (show xs.length - (i + 1) < xs.length - i by omega) ⟨rfl, by show _ = some (str (jnA [32] (idTs xs) (i + 1))); rw [jnA, if_pos h0, idTs_get xs i hlt]; rfl, rfl, trivial⟩ O rfl
    ·
     have h0 : ¬ 0 < i := by simp at hc19; omega
     refine aC (ae ?_)
     refine hK12 _ _ (aj ?_)
     refine aa O O O (af O O) (aa O O O (af O O) ?_)
     refine aa O O O (af O O) (aa O O O (bx (sz := 32) (off' := off + i * 32) O O O Tryz.underlying57 (by kernel_rfl) (by omega) (by omega) (by omega)) ?_)
     refine aa O O O (SL.Pure.loadOR (k := 32) hrng hb (fun h => h) O O (by kernel_rfl) O (by kernel_rfl)) ?_
     refine am O (aN O O (by kernel_rfl) O O (fun w hM hK => refIdText_c xs[i] w)) ?_
     intro _ _
     try simp only [setN, putD, selM, nth, cw, cx]
     refine aa O O O (ba O O O (by (try simp only [List.length_append, List.length_singleton]); omega)) ?_
     refine aa O O O (ak O O) (ai ?_)
     refine aQ (ae ?_)
     refine hK11 _ _ (aj ?_)
     refine aa O O O (af O O) (aa O O O (aL O O O O (by omega) (by omega)) ?_)
     refine aa O O O (ak O O) (ai ?_)
     refine ae ?_
     exact bd (i + 1) [] (show i + 1 ≤ xs.length by omega) (show xs.length - (i + 1) < xs.length - i by omega) ⟨rfl, by show _ = some (str (jnA [32] (idTs xs) (i + 1))); rw [jnA, if_neg h0, idTs_get xs i hlt]; rfl, rfl, trivial⟩ O rfl
   ·
    have hie : i = xs.length := by simp at hc15; omega
    subst hie
    refine aU (aI ?_)
    refine aI (aV ?_)
    refine ae (hK7 _ _ ?_)
    refine ah fun K14 hK14 => aj (aa O O O (af O O) ?_)
    refine aa O O O (ak O O) (aa O O O (ak O O) ?_)
    refine ai (ae ?_)
    refine hK14 _ _ (aw av (ar O (.cons (.tmp O) (.cons (.tmp O) .nil)) O) (fun w' hM' hK' => ?_))
    exact ⟨by rw [if_pos he, he]; simp only [prM, jn, idTs, List.length_map]; rfl, hK'⟩

theorem refList_c (xs : List (B 32)) (a : Option Addr) (len cap : Nat) (hl30 : xs.length ≤ 1000000) (w : World) (hR : RC 32 w a len (idsV xs)) :
  Calls Tryz.prog 20 [.slice a len cap].toArray w fun e w' => ∃ v : Value, True ∧ e = .returned v ∧ Post w (blocksOf []) [.row v 73 32 xs.length (idsV xs)] w' := by
 have hRR := hR
 obtain ⟨h1, h2, h3⟩ := hR
 have hl : xs.length = len := by rw [idsV_len] at h1; omega
 subst hl
 have hno : ∀ b : Nat, ¬ blocksOf [] b := by rintro b ⟨res, h, _⟩; cases h
 refine aJ (n := 19) (W := (blocksOf [])) (m := []) Tryz.func20 O Tryz.ntmps20 O (aO _ _ _) ?_
 simp only [SL.enum, Nat.reduceAdd]
 refine ah fun K1 hK1 => aj (aa O O O (ak O O) ?_)
 refine ai (ae ?_)
 refine hK1 _ _ (ah fun K2 hK2 => ?_)
 refine aj (aa O O O (ak O O) ?_)
 refine ai (ae ?_)
 refine hK2 _ _ (ah fun K3 hK3 => ?_)
 refine ah fun K4 hK4 => aj (aa O O O (ak O O) ?_)
 refine ai (ae ?_)
 refine hK4 _ _ (aK ?_)
 refine bu (X := (Nat × Value)) (φ := fun X => X.1 ≤ xs.length) (L := fun X => [(0, .slice a xs.length cap), (3, X.2), (4, .int .i64 X.1)]) (M := fun X => [.row X.2 73 32 X.1 (idsV (xs.take X.1))]) (μ := fun X => xs.length - X.1) ?_ ?_
 ·
  exact fun _ _ st => ⟨(0, .slice none 0 0), Nat.zero_le _, ⟨st.has.sub ⟨rfl, rfl, rfl, trivial⟩, st.mem.nilRow _ _, st.keeps⟩⟩
 ·
  intro ⟨i, v⟩ hi
  try dsimp only
  refine ah fun K5 hK5 => ah fun K6 hK6 => aj (aa O O O (af O O) ?_)
  refine aa O O O (af O O) (aa O O O (bw O O O Tryz.underlying24) ?_)
  refine aa O O O (aT O O O) (ai ?_)
  refine ae (hK6 _ _ ?_)
  refine aH O (fun hc8 => ?_) (fun hc8 => ?_)
  ·
   have hlt : i < xs.length := by simp at hc8; omega
   rcases h3 with h3 | ⟨b, off, rfl, hb, hc⟩
   ·
    omega
   have hx : xs[i]? = some xs[i] := List.getElem?_eq_getElem hlt
   have hrng := RC.id hc hx
   refine aC (ae ?_)
   refine hK5 _ _ (ah fun K7 hK7 => ?_)
   refine aK (aj ?_)
   refine aa O O O (af O O) (aa O O O (af O O) ?_)
   refine aa O O O (af O O) (aa O O O (bx (sz := 32) (off' := off + i * 32) O O O Tryz.underlying24 (by kernel_rfl) (by omega) (by omega) (by omega)) ?_)
   refine aa O O O (SL.Pure.loadOR (k := 32) hrng hb (hno b) O O (by kernel_rfl) O (by kernel_rfl)) ?_
   refine am O (by exact SL.Eff.buildSlice1A (sz := 32) (q := [xs[i].seg]) (zs := [(B.zero 32).seg]) O O O O Tryz.underlying57 (by kernel_rfl) (by kernel_rfl) O (by decide) (by decide) O O) ?_
   intro g16 _
   try simp only [setN, putD, selM, nth, cw, cx]
   refine am O (by exact bF (by' := 32) 1 [] O O O O Tryz.underlying57 Tryz.underlying57 (by kernel_rfl) (fun w' hM _ => bK (i := 0) O hM) (fun u hu => flat_one _ u hu) O O O O (by omega) (by omega)) ?_
   intro v17 hv17
   try simp only [setN, putD, selM, nth, cw, cx]
   have hta : idsV (xs.take i) ++ (flat [xs[i].seg]).toList = idsV (xs.take (i + 1)) := by rw [List.take_succ_eq_append_getElem hlt, idsV_append]; simp [idsV]
   rw [hta]
   refine aa O O O (ak O O) (ai ?_)
   refine aQ (ae ?_)
   refine hK7 _ _ (aj ?_)
   refine aa O O O (af O O) (aa O O O (aL O O O O (by omega) (by omega)) ?_)
   refine aa O O O (ak O O) (ai ?_)
   refine ae ?_
   exact bd (i + 1, v17) [0] (show i + 1 ≤ xs.length by omega) (show xs.length - (i + 1) < xs.length - i by omega) ⟨rfl, rfl, rfl, trivial⟩ O rfl
  ·
   have hie : i = xs.length := by simp at hc8; omega
   subst hie
   rw [List.take_length]
   refine aU (aI ?_)
   refine aI (aV ?_)
   refine ae (hK3 _ _ ?_)
   refine ah fun K8 hK8 => aj (aa O O O (af O O) ?_)
   refine aa O O O (ak O O) (ai ?_)
   refine ae (hK8 _ _ ?_)
   refine aw av (ar O (.cons (.tmp O) .nil) O) (fun w' hM' hK' => ?_)
   exact ⟨v, trivial, rfl, hK', hM'⟩
end Go.Proofs.YthfhhkanpnemcaaGreatDoor
namespace Go.Proofs.YthfhhkanpnemcaaGreatDoor
open Go.SL Go.RowKit IntWalk
set_option linter.unusedVariables false
set_option maxRecDepth 100000
set_option linter.unusedSimpArgs false
set_option maxHeartbeats 400000

def A64 : List UInt8 := [65, 66, 67, 68, 69, 70, 71, 72, 73, 74, 75, 76, 77, 78, 79, 80, 81, 82, 83, 84, 85, 86, 87, 88, 89, 90, 97, 98, 99, 100, 101, 102, 103, 104, 105, 106, 107, 108, 109, 110, 111, 112, 113, 114, 115, 116, 117, 118, 119, 120, 121, 122, 48, 49, 50, 51, 52, 53, 54, 55, 56, 57, 43, 47]
def a64 (v : Nat) : UInt8 := A64.getD v 0
theorem a64_slice : ∀ q, q < 64 → (A64.take (q + 1)).drop q = [a64 q] := by decide
theorem sl64 (q : Nat) (h : q < 64) : (A64.take (Int.toNat ((q + 1 : Nat) : Int))).drop (Int.toNat (q : Int)) = [a64 q] := by
 simpa using a64_slice q h

/-- what has been written, the bits at hand, and how many they are -/
structure BS where
 o : List UInt8
 v : Nat
 h : Nat
def bit1 (s : BS) (x : Nat) : BS := if s.h = 5 then ⟨s.o ++ [a64 (2 * s.v + x)], 0, 0⟩ else ⟨s.o, 2 * s.v + x, s.h + 1⟩
def bitAt (c : UInt8) (j : Nat) : Nat := c.toNat / 2 ^ (7 - j) % 2
def byt (s : BS) (c : UInt8) : Nat → BS
 | 0 => s
 | j + 1 => bit1 (byt s c j) (bitAt c j)
def bys (l : List UInt8) : Nat → BS
 | 0 => ⟨[], 0, 0⟩
 | i + 1 => byt (bys l i) (l.getD i 0) 8
def bok (s : BS) (k : Nat) : Prop := s.h ≤ 5 ∧ s.v < 2 ^ s.h ∧ s.o.length ≤ k
theorem bit1_ok {s : BS} {k x : Nat} (h : bok s k) (hx : x < 2) : bok (bit1 s x) (k + 1) := by
 obtain ⟨h1, h2, h3⟩ := h
 unfold bit1
 split
 ·
  exact ⟨by simp, by simp, by simp; omega⟩
 ·
  refine ⟨by simp only; omega, ?_, by simp only; omega⟩
  simp only [Nat.pow_succ]; omega
theorem byt_ok {s : BS} {k : Nat} (h : bok s k) (c : UInt8) : ∀ j, bok (byt s c j) (k + j)
 | 0 => h
 | j + 1 => bit1_ok (byt_ok h c j) (by unfold bitAt; omega)
theorem bys_ok (l : List UInt8) : ∀ i, bok (bys l i) (8 * i)
 | 0 => ⟨by simp [bys], by simp [bys], by simp [bys]⟩
 | i + 1 => by have := byt_ok (bys_ok l i) (l.getD i 0) 8; rw [show 8 * i + 8 = 8 * (i + 1) by omega] at this; exact this
def fin64 (s : BS) : List UInt8 := if 0 < s.h then s.o ++ [a64 (s.v * 2 ^ (6 - s.h))] else s.o
def padq (o : List UInt8) (k : Nat) : List UInt8 := o ++ List.replicate k 61
def b64 (l : List UInt8) : List UInt8 := padq (fin64 (bys l l.length)) ((4 - (fin64 (bys l l.length)).length % 4) % 4)
theorem v64 {s : BS} {k : Nat} (h : bok s k) (x : Nat) (hx : x < 2) (h5 : s.h = 5) : 2 * s.v + x < 64 := by
 have := h.2.1; rw [h5] at this; simp at this; omega
theorem v32 {s : BS} {k : Nat} (h : bok s k) : s.v < 32 := by
 have h1 := h.2.1
 have : 2 ^ s.h ≤ 2 ^ 5 := Nat.pow_le_pow_right (by decide) h.1
 omega

theorem vk_lt {v h k : Nat} (hv : v < 2 ^ h) (hk : h + k ≤ 6) : v * 2 ^ k < 64 := by
 have h1 : v * 2 ^ k < 2 ^ h * 2 ^ k := Nat.mul_lt_mul_of_pos_right hv (Nat.two_pow_pos k)
 rw [← Nat.pow_add] at h1
 have h2 : 2 ^ (h + k) ≤ 2 ^ 6 := Nat.pow_le_pow_right (by decide) hk
 omega

theorem and1 (q : Nat) (hq : q < 256) : IntKind.u8.wrap (BitVec.ofInt IntKind.u8.bits (q : Int) &&& BitVec.ofInt IntKind.u8.bits 1).toNat = ((q % 2 : Nat) : Int) := by
 have e : (BitVec.ofInt 8 (q : Int) &&& BitVec.ofInt 8 1).toNat = q % 2 := by
  have h1 : BitVec.ofInt 8 (1 : Int) = 1#8 := by decide
  rw [h1, BitVec.toNat_and, BitVec.toNat_ofInt]
  have h5 : (1#8).toNat = 2 ^ 1 - 1 := by decide
  rw [h5, Nat.and_two_pow_sub_one_eq_mod]
  omega
 show IntKind.u8.wrap ((BitVec.ofInt 8 (q : Int) &&& BitVec.ofInt 8 1).toNat : Int) = _
 rw [e, IntKind.wrap_u8]
 omega

theorem b64_c (x : List UInt8) (a : Option Addr) (len cap : Nat) (hl : x.length ≤ 100000) (w : World) (hR : RC 1 w a len (bytesV x)) :
  Calls Tryz.prog 39 [.slice a len cap].toArray w fun e w' => e = .returned (str (b64 x)) ∧ Keeps none1 w w' := by
 obtain ⟨h1, h2, h3⟩ := hR
 have hl1 : x.length = len := by rw [bytesV_length] at h1; omega
 subst hl1
 refine aJ (n := 60) (W := SL.none1) (m := []) Tryz.func39 O Tryz.ntmps39 O (aO _ _ _) ?_
 simp only [SL.enum, Nat.reduceAdd]
 refine ah fun K1 hK1 => aj (aa O O O (ak O O) ?_)
 refine ai (ae ?_)
 refine hK1 _ _ (ah fun K2 hK2 => ?_)
 refine aj (aa O O O (ak O O) ?_)
 refine ai (ae ?_)
 refine hK2 _ _ (ah fun K3 hK3 => ?_)
 refine aj (aa O O O (ak O O) ?_)
 refine aa O O O (ak O O) (ai ?_)
 refine ae (hK3 _ _ ?_)
 refine ah fun K4 hK4 => ah fun K5 hK5 => aj (aa O O O (ak O O) ?_)
 refine ai (ae ?_)
 refine hK5 _ _ (aK ?_)
 refine bu (X := Nat) (φ := fun i => i ≤ x.length) (L := fun i => [(0, .slice a x.length cap), (3, str (bys x i).o), (4, .int .i64 (bys x i).v), (5, .int .i64 (bys x i).h), (6, .int .i64 i)]) (M := fun i => []) (μ := fun i => x.length - i) ?_ ?_
 ·
  exact fun _ _ st => ⟨0, Nat.zero_le _, st.to [] ⟨rfl, rfl, rfl, rfl, rfl, trivial⟩ O rfl⟩
 ·
  intro i hi
  try dsimp only
  refine ah fun K6 hK6 => ah fun K7 hK7 => aj (aa O O O (af O O) ?_)
  refine aa O O O (af O O) (aa O O O (bw O O O Tryz.underlying52) ?_)
  refine aa O O O (aT O O O) (ai ?_)
  refine ae (hK7 _ _ ?_)
  refine aH O (fun hc11 => ?_) (fun hc11 => ?_)
  ·
   have hlt : i < x.length := by simp at hc11; omega
   rcases h3 with h3 | ⟨b, off, rfl, hb, hc⟩
   ·
    omega
   have hcell := hc i _ (show (bytesV x)[i]? = some (.int .u8 (x.getD i 0).toNat) by simp [bytesV, hlt])
   have hbo := bys_ok x i
   refine aC (ae ?_)
   refine hK6 _ _ (ah fun K8 hK8 => ?_)
   refine aK (ah fun K9 hK9 => ?_)
   refine aj (aa O O O (ak O O) ?_)
   refine ai (ae ?_)
   refine hK9 _ _ (aK ?_)
   refine bu (X := Nat) (φ := fun j => j ≤ 8) (L := fun j => [(0, .slice (some ⟨b, off, none⟩) x.length cap), (3, str (byt (bys x i) (x.getD i 0) j).o), (4, .int .i64 (byt (bys x i) (x.getD i 0) j).v), (5, .int .i64 (byt (bys x i) (x.getD i 0) j).h), (6, .int .i64 i), (7, .int .i64 (7 - (j : Int)))]) (M := fun j => []) (μ := fun j => 8 - j) ?_ ?_
   ·
    exact fun _ _ st => ⟨0, Nat.zero_le _, st.to [] ⟨rfl, rfl, rfl, rfl, rfl, rfl, trivial⟩ O rfl⟩
   ·
    intro j hj
    try dsimp only
    refine ah fun K10 hK10 => ah fun K11 hK11 => aj (aa O O O (af O O) ?_)
    refine aa O O O (bB O O O) (ai ?_)
    refine ae (hK11 _ _ ?_)
    refine aH O (fun hc15 => ?_) (fun hc15 => ?_)
    ·
     have hj8 : j < 8 := by simp at hc15; omega
     have hjo := byt_ok hbo (x.getD i 0) j
     have hv := v32 hjo
     have hbit : bitAt (x.getD i 0) j < 2 := by unfold bitAt; omega
     have hol := hjo.2.2
     refine aC (ae ?_)
     refine hK10 _ _ (ah fun K12 hK12 => ?_)
     refine aK (ah fun K13 hK13 => ?_)
     refine aj (aa O O O (af O O) ?_)
     refine aa O O O (ct O O O O (by omega) (by omega)) ?_
     refine aa O O O (af O O) (aa O O O (af O O) ?_)
     refine aa O O O (bx (sz := 1) (off' := off + i) O O O Tryz.underlying52 (by kernel_rfl) (by omega) (by omega) (by omega)) ?_
     refine aa O O O (cj hb (fun h => h) hcell O O (by kernel_rfl)) ?_
     refine aa O O O (af O O) ?_
     refine aa O O O (cu (r := (((x.getD i 0).toNat / 2 ^ (7 - j) : Nat) : Int)) O O O (by omega) (by
      have e1 : min (Int.toNat (7 - (j : Int))) IntKind.u8.bits = 7 - j := by simp [IntKind.bits]; omega
      have e3 : (2 : Int) ^ (7 - j) = ((2 ^ (7 - j) : Nat) : Int) := by simp
      rw [e1, e3, Int.fdiv_eq_ediv_of_nonneg _ (Int.natCast_nonneg _)]
      rfl)) ?_
     refine aa O O O (cr (r := ((bitAt (x.getD i 0) j : Nat) : Int)) O O O (and1 _ (Nat.lt_of_le_of_lt (Nat.div_le_self _ _) (x.getD i 0).toNat_lt))) (aa O O O (bT (r := ((bitAt (x.getD i 0) j : Nat) : Int)) O O (by kernel_rfl) Tryz.underlying3 (by rw [IntKind.wrap_i64]; omega)) ?_)
     refine aa O O O (aL (r := ((2 * (byt (bys x i) (x.getD i 0) j).v + bitAt (x.getD i 0) j : Nat) : Int)) O O O (by omega) (by omega) (by omega)) ?_
     refine aa O O O (ak O O) (ai ?_)
     refine ae (hK13 _ _ ?_)
     refine ah fun K14 hK14 => aj (aa O O O (af O O) ?_)
     refine aa O O O (aL (r := (((byt (bys x i) (x.getD i 0) j).h + 1 : Nat) : Int)) O O O (by omega) (by have := hjo.1; omega) (by have := hjo.1; omega)) ?_
     refine aa O O O (ak O O) (ai ?_)
     refine ae (hK14 _ _ ?_)
     refine ah fun K15 hK15 => aj (aa O O O (af O O) ?_)
     refine aa O O O (bt O O O) (ai ?_)
     refine ae (hK15 _ _ ?_)
     refine aH O (fun hc32 => ?_) (fun hc32 => ?_)
     ·
      have h5 : (byt (bys x i) (x.getD i 0) j).h = 5 := by simp [-List.getD_eq_getElem?_getD] at hc32; omega
      have h64 := v64 hjo _ hbit h5
      have e5 : byt (bys x i) (x.getD i 0) (j + 1) = ⟨(byt (bys x i) (x.getD i 0) j).o ++ [a64 (2 * (byt (bys x i) (x.getD i 0) j).v + bitAt (x.getD i 0) j)], 0, 0⟩ := by show bit1 _ _ = _; unfold bit1; rw [if_pos h5]
      refine ah fun K16 hK16 => aj (aa O O O (af O O) ?_)
      refine aa O O O (af O O) (aa O O O (af O O) ?_)
      refine aa O O O (aL (r := ((2 * (byt (bys x i) (x.getD i 0) j).v + bitAt (x.getD i 0) j + 1 : Nat) : Int)) O O O (by omega) (by omega) (by omega)) ?_
      refine aa O O O (SL.Pure.sliceS2 O (show _ = some (str A64) from O) Tryz.underlying9 O O (by omega) (by omega) (by show _ ≤ ((64 : Nat) : Int); omega) (sl64 _ h64)) ?_
      refine aa O O O (ba O O O (by simp only [List.length_cons, List.length_nil]; omega)) ?_
      refine aa O O O (ak O O) (ai ?_)
      refine ae (hK16 _ _ ?_)
      refine aj (aa O O O (ak O O) ?_)
      refine aa O O O (ak O O) (ai ?_)
      refine aQ (ae ?_)
      refine hK12 _ _ (aj ?_)
      refine aa O O O (af O O) (aa O O O (bU (r := 7 - ((j + 1 : Nat) : Int)) O O O (by omega) (by omega) (by omega)) ?_)
      refine aa O O O (ak O O) (ai ?_)
      refine ae ?_
      exact bd (j + 1) [] (show j + 1 ≤ 8 by omega) (show 8 - (j + 1) < 8 - j by omega) ⟨rfl, (by show _ = some (str (byt (bys x i) (x.getD i 0) (j + 1)).o); rw [e5]; rfl), (by show _ = some (Value.int .i64 (byt (bys x i) (x.getD i 0) (j + 1)).v); rw [e5]; rfl), (by show _ = some (Value.int .i64 (byt (bys x i) (x.getD i 0) (j + 1)).h); rw [e5]; rfl), rfl, rfl, trivial⟩ O rfl
     ·
      have h5 : ¬ (byt (bys x i) (x.getD i 0) j).h = 5 := by simp [-List.getD_eq_getElem?_getD] at hc32; omega
      have e5 : byt (bys x i) (x.getD i 0) (j + 1) = ⟨(byt (bys x i) (x.getD i 0) j).o, 2 * (byt (bys x i) (x.getD i 0) j).v + bitAt (x.getD i 0) j, (byt (bys x i) (x.getD i 0) j).h + 1⟩ := by show bit1 _ _ = _; unfold bit1; rw [if_neg h5]
      refine aC (aQ ?_)
      refine ae (hK12 _ _ ?_)
      refine aj (aa O O O (af O O) ?_)
      refine aa O O O (bU (r := 7 - ((j + 1 : Nat) : Int)) O O O (by omega) (by omega) (by omega)) ?_
      refine aa O O O (ak O O) (ai ?_)
      refine ae ?_
      exact bd (j + 1) [] (show j + 1 ≤ 8 by omega) (show 8 - (j + 1) < 8 - j by omega) ⟨rfl, (by show _ = some (str (byt (bys x i) (x.getD i 0) (j + 1)).o); rw [e5]; rfl), (by show _ = some (Value.int .i64 (byt (bys x i) (x.getD i 0) (j + 1)).v); rw [e5]; rfl), (by show _ = some (Value.int .i64 (byt (bys x i) (x.getD i 0) (j + 1)).h); rw [e5]; rfl), rfl, rfl, trivial⟩ O rfl
    ·
     have hj8 : j = 8 := by simp at hc15; omega
     subst hj8
     refine aU (aI ?_)
     refine aI (aV ?_)
     refine aQ (ae ?_)
     refine hK8 _ _ (aj ?_)
     refine aa O O O (af O O) (aa O O O (aL O O O O (by omega) (by omega)) ?_)
     refine aa O O O (ak O O) (ai ?_)
     refine ae ?_
     exact bd (i + 1) [] (show i + 1 ≤ x.length by omega) (show x.length - (i + 1) < x.length - i by omega) ⟨rfl, rfl, rfl, rfl, rfl, trivial⟩ O rfl
  ·
   have hie : i = x.length := by simp at hc11; omega
   subst hie
   have hbo := bys_ok x x.length
   refine aU (aI ?_)
   refine aI (aV ?_)
   refine ae (hK4 _ _ ?_)
   refine ah fun K17 hK17 => ah fun K18 hK18 => ?_
   generalize hsv : bys x x.length = sv at *
   obtain ⟨hs1, hs2, hs3⟩ := id hbo
   refine aj (aa O O O (af O O) ?_)
   refine aa O O O (bH O O O) (ai ?_)
   refine ae (hK18 _ _ ?_)
   refine aH O (fun hc40 => ?_) (fun hc40 => ?_)
   ·
    have hh : 0 < sv.h := by simp at hc40; omega
    have hf : fin64 sv = sv.o ++ [a64 (sv.v * 2 ^ (6 - sv.h))] := by unfold fin64; rw [if_pos hh]
    refine ah fun K19 hK19 => aK (bu (X := Nat) (φ := fun k => sv.h + k ≤ 6) (L := fun k => [(3, str sv.o), (4, .int .i64 ((sv.v * 2 ^ k : Nat) : Int)), (5, .int .i64 ((sv.h + k : Nat) : Int))]) (M := fun k => []) (μ := fun k => 6 - (sv.h + k)) ?_ ?_)
    ·
     exact fun _ _ st => ⟨0, by omega, st.to [] ⟨rfl, by show _ = some (Value.int .i64 ((sv.v * 2 ^ 0 : Nat) : Int)); rw [Nat.pow_zero, Nat.mul_one]; rfl, rfl, trivial⟩ O rfl⟩
    ·
     intro k hk
     try dsimp only
     have hvk := vk_lt hs2 hk
     refine ah fun K20 hK20 => ah fun K21 hK21 => aj (aa O O O (af O O) ?_)
     refine aa O O O (aT O O O) (ai ?_)
     refine ae (hK21 _ _ ?_)
     refine aH O (fun hc42 => ?_) (fun hc42 => ?_)
     ·
      have hk6 : sv.h + k < 6 := by simp at hc42; omega
      have hp : sv.v * 2 ^ (k + 1) = 2 * (sv.v * 2 ^ k) := by rw [Nat.pow_succ, ← Nat.mul_assoc]; omega
      refine aC (ae ?_)
      refine hK20 _ _ (ah fun K22 hK22 => ?_)
      refine aK (aj ?_)
      refine aa O O O (af O O) (aa O O O (ct (r := ((sv.v * 2 ^ (k + 1) : Nat) : Int)) O O O (by rw [hp]; omega) (by omega) (by omega)) ?_)
      refine aa O O O (ak O O) (ai ?_)
      refine aQ (ae ?_)
      refine hK22 _ _ (aj ?_)
      refine aa O O O (af O O) (aa O O O (aL (r := ((sv.h + (k + 1) : Nat) : Int)) O O O (by omega) (by omega) (by omega)) ?_)
      refine aa O O O (ak O O) (ai ?_)
      refine ae ?_
      exact bd (k + 1) [] (show sv.h + (k + 1) ≤ 6 by omega) (show 6 - (sv.h + (k + 1)) < 6 - (sv.h + k) by omega) ⟨rfl, rfl, rfl, trivial⟩ O rfl
     ·
      have hk6 : sv.h + k = 6 := by simp at hc42; omega
      have hk7 : k = 6 - sv.h := by omega
      subst hk7
      refine aU (aI ?_)
      refine aI (aV ?_)
      refine ae (hK19 _ _ ?_)
      refine aj (aa O O O (af O O) ?_)
      refine aa O O O (af O O) (aa O O O (af O O) ?_)
      refine aa O O O (aL (r := ((sv.v * 2 ^ (6 - sv.h) + 1 : Nat) : Int)) O O O (by omega) (by omega) (by omega)) ?_
      refine aa O O O (SL.Pure.sliceS2 O (show _ = some (str A64) from O) Tryz.underlying9 O O (by omega) (by omega) (by show _ ≤ ((64 : Nat) : Int); omega) (sl64 _ hvk)) ?_
      refine aa O O O (ba O O O (by simp only [List.length_cons, List.length_nil]; omega)) ?_
      refine aa O O O (ak O O) (ai ?_)
      refine ae (hK17 _ _ ?_)
      refine ah fun K23 hK23 => aK (bu (X := Nat) (φ := fun k => k ≤ (4 - (fin64 sv).length % 4) % 4) (L := fun k => [(3, str (padq (fin64 sv) k))]) (M := fun k => []) (μ := fun k => 4 - k) ?_ ?_)
      ·
       exact fun _ _ st => ⟨0, Nat.zero_le _, st.to [] ⟨by show _ = some (str (padq (fin64 sv) 0)); rw [hf, padq, List.replicate_zero, List.append_nil]; rfl, trivial⟩ O rfl⟩
      ·
       intro k hk
       try dsimp only
       have hpl : (padq (fin64 sv) k).length = (fin64 sv).length + k := by simp [padq]
       have hfl : (fin64 sv).length ≤ sv.o.length + 1 := by rw [hf]; simp
       refine ah fun K24 hK24 => ah fun K25 hK25 => aj (aa O O O (af O O) ?_)
       refine aa O O O (bf O O O Tryz.underlying9) (aa O O O (SL.Pure.remI O O O (by omega) (by omega) (by omega)) ?_)
       refine aa O O O (bl O O O) (ai ?_)
       refine ae (hK25 _ _ ?_)
       refine aH O (fun hc56 => ?_) (fun hc56 => ?_)
       ·
        have hk4 : k < (4 - (fin64 sv).length % 4) % 4 := by simp [hpl] at hc56; omega
        have hps : padq (fin64 sv) k ++ [61] = padq (fin64 sv) (k + 1) := by simp [padq, List.replicate_succ']
        refine aC (ae ?_)
        refine hK24 _ _ (aK ?_)
        refine aj (aa O O O (af O O) ?_)
        refine aa O O O (ba O O (show _ = some (str [61]) from O) (by simp only [List.length_cons, List.length_nil]; omega)) ?_
        refine aa O O O (ak O O) (ai ?_)
        rw [hps]
        refine aQ (ae ?_)
        exact bd (k + 1) [] (show k + 1 ≤ (4 - (fin64 sv).length % 4) % 4 by omega) (show 4 - (k + 1) < 4 - k by omega) ⟨rfl, trivial⟩ O rfl
       ·
        have hk4 : k = (4 - (fin64 sv).length % 4) % 4 := by simp [hpl] at hc56; omega
        subst hk4
        refine aU (aI ?_)
        refine aI (aV ?_)
        refine ae (hK23 _ _ ?_)
        refine ah fun K26 hK26 => aj (aa O O O (af O O) ?_)
        refine aa O O O (ak O O) (ai ?_)
        refine ae (hK26 _ _ ?_)
        refine aw av (ar O (.cons (.tmp O) .nil) O) (fun w' hM' hK' => ?_)
        exact ⟨by rw [b64, hsv]; rfl, hK'⟩
   ·
    have hh : ¬ 0 < sv.h := by simp at hc40; omega
    have hf : fin64 sv = sv.o := by unfold fin64; rw [if_neg hh]
    refine aC (ae ?_)
    refine hK17 _ _ (ah fun K27 hK27 => ?_)
    refine aK (bu (X := Nat) (φ := fun k => k ≤ (4 - (fin64 sv).length % 4) % 4) (L := fun k => [(3, str (padq (fin64 sv) k))]) (M := fun k => []) (μ := fun k => 4 - k) ?_ ?_)
    ·
     exact fun _ _ st => ⟨0, Nat.zero_le _, st.to [] ⟨by show _ = some (str (padq (fin64 sv) 0)); rw [hf, padq, List.replicate_zero, List.append_nil]; rfl, trivial⟩ O rfl⟩
    ·
     intro k hk
     try dsimp only
     have hpl : (padq (fin64 sv) k).length = (fin64 sv).length + k := by simp [padq]
     have hfl : (fin64 sv).length ≤ sv.o.length + 1 := by rw [hf]; simp
     refine ah fun K28 hK28 => ah fun K29 hK29 => aj (aa O O O (af O O) ?_)
     refine aa O O O (bf O O O Tryz.underlying9) (aa O O O (SL.Pure.remI O O O (by omega) (by omega) (by omega)) ?_)
     refine aa O O O (bl O O O) (ai ?_)
     refine ae (hK29 _ _ ?_)
     refine aH O (fun hc56 => ?_) (fun hc56 => ?_)
     ·
      have hk4 : k < (4 - (fin64 sv).length % 4) % 4 := by simp [hpl] at hc56; omega
      have hps : padq (fin64 sv) k ++ [61] = padq (fin64 sv) (k + 1) := by simp [padq, List.replicate_succ']
      refine aC (ae ?_)
      refine hK28 _ _ (aK ?_)
      refine aj (aa O O O (af O O) ?_)
      refine aa O O O (ba O O (show _ = some (str [61]) from O) (by simp only [List.length_cons, List.length_nil]; omega)) ?_
      refine aa O O O (ak O O) (ai ?_)
      rw [hps]
      refine aQ (ae ?_)
      exact bd (k + 1) [] (show k + 1 ≤ (4 - (fin64 sv).length % 4) % 4 by omega) (show 4 - (k + 1) < 4 - k by omega) ⟨rfl, trivial⟩ O rfl
     ·
      have hk4 : k = (4 - (fin64 sv).length % 4) % 4 := by simp [hpl] at hc56; omega
      subst hk4
      refine aU (aI ?_)
      refine aI (aV ?_)
      refine ae (hK27 _ _ ?_)
      refine ah fun K30 hK30 => aj (aa O O O (af O O) ?_)
      refine aa O O O (ak O O) (ai ?_)
      refine ae (hK30 _ _ ?_)
      refine aw av (ar O (.cons (.tmp O) .nil) O) (fun w' hM' hK' => ?_)
      exact ⟨by rw [b64, hsv]; rfl, hK'⟩
end Go.Proofs.YthfhhkanpnemcaaGreatDoor
namespace Go.Proofs.YthfhhkanpnemcaaGreatDoor
open Go.SL Go.RowKit IntWalk
set_option linter.unusedVariables false
set_option maxRecDepth 100000
set_option linter.unusedSimpArgs false
set_option maxHeartbeats 400000

/-- a content -/
structure Con where
 name : List UInt8
 author : B 16
 date : Int
 groups : List (List UInt8)
 subj : List UInt8
 refs : List (B 32)
 sup : B 32
 ctl : List UInt8
 dist : List UInt8
 num : Int
 height : Int
 root : B 16
 leaf : Int
 body : List UInt8
 deriving DecidableEq
/-- where its two slices lie -/
structure CAt where
 ga : Option Addr
 gl : Nat
 gc : Nat
 ra : Option Addr
 rl : Nat
 rc : Nat
abbrev cseg (c : Con) (p : CAt) : List Seg := [Seg.one (str c.name) rfl, c.author.seg, Seg.one (.int .i64 c.date) rfl, Seg.one (.slice p.ga p.gl p.gc) rfl, Seg.one (str c.subj) rfl, Seg.one (.slice p.ra p.rl p.rc) rfl, c.sup.seg, Seg.one (str c.ctl) rfl, Seg.one (str c.dist) rfl, Seg.one (.int .i64 c.num) rfl, Seg.one (.int .i64 c.height) rfl, c.root.seg, Seg.one (.int .i64 c.leaf) rfl, Seg.one (str c.body) rfl]
/-- what its slices read as -/
def CRd (w : World) (c : Con) (p : CAt) : Prop := RC 1 w p.ga p.gl (c.groups.map str) ∧ RC 32 w p.ra p.rl (idsV c.refs) ∧ p.gl ≤ p.gc ∧ p.rl ≤ p.rc
theorem CRd.keep {w w' : World} {c : Con} {p : CAt} (h : CRd w c p) (hk : Keeps none1 w w') : CRd w' c p := ⟨h.1.keep hk, h.2.1.keep hk, h.2.2⟩

def pkB (h : Int) (root : B 16) : List UInt8 := UInt8.ofNat (h % 256).toNat :: root.l
theorem pkB_len (h : Int) (root : B 16) : (pkB h root).length = 17 := by simp [pkB, root.h]

theorem refBytes_c (h : Int) (root : B 16) (w : World) : Calls Tryz.prog 40 [.int .i64 h, .agg (flat [root.seg])].toArray w fun e w' => ∃ v : Value, True ∧ e = .returned v ∧ Post w (blocksOf []) [.row v 5 1 17 (bytesV (pkB h root))] w' := by
 refine aJ (n := 10) (W := (blocksOf [])) (m := []) Tryz.func40 O Tryz.ntmps40 O (aO _ _ _) ?_
 simp only [SL.enum, Nat.reduceAdd]
 refine ah fun K1 hK1 => aj (am O (bh _ O O O O O) ?_)
 intro b3 _
 try simp only [setN, putD, selM, nth, cw, cx]
 refine aa O O O (ak O O) (ai ?_)
 refine ae (hK1 _ _ ?_)
 refine ah fun K2 hK2 => aj (aa O O O (af O O) ?_)
 refine aa O O O (bT (r := ((UInt8.ofNat (h % 256).toNat).toNat : Int)) O O (by kernel_rfl) Tryz.underlying5 (by rw [IntKind.wrap_u8, UInt8.toNat_ofNat']; omega)) ?_
 refine am O (by exact bW #[.int .u8 0] [.int .u8 (UInt8.ofNat (h % 256).toNat).toNat] O O Tryz.underlying52 (by kernel_rfl) (by kernel_rfl) O (by decide) O O) ?_
 intro g7 _
 try simp only [setN, putD, selM, nth, cw, cx]
 refine aa O O O (SL.Pure.sliceArr (sz := 1) O O Tryz.underlying22 (by kernel_rfl) (by decide)) ?_
 refine am O (by exact bF (by' := 1) 0 [1] O O O O Tryz.underlying52 Tryz.underlying52 (by kernel_rfl) (fun w' hM _ => RC.ofB (hM.blk (i := 1) O) (by decide)) (SL.bytesV_one root.l) O O O O (by omega) (by omega)) ?_
 intro v9 hv9
 try simp only [setN, putD, selM, nth, cw, cx]
 refine aa O O O (ak O O) (ai ?_)
 refine ae (hK2 _ _ ?_)
 refine aw av (ar O (.cons (.tmp O) .nil) O) (fun w' hM' hK' => ?_)
 exact ⟨v9, trivial, rfl, hK', hM'.sel [0] rfl⟩

def keyM (c : Con) : List UInt8 := Lib.decDigits c.num.toNat ++ [32] ++ b64 (pkB c.height c.root)
theorem fin64_len (s : BS) : (fin64 s).length ≤ s.o.length + 1 := by unfold fin64; split <;> simp
theorem b64_len (l : List UInt8) : (b64 l).length ≤ 8 * l.length + 5 := by
 have h1 := (bys_ok l l.length).2.2
 have h2 := fin64_len (bys l l.length)
 unfold b64 padq
 simp only [List.length_append, List.length_replicate]
 omega

theorem refDigitsI_c (z : Int) (h0 : 0 ≤ z) (h1 : z ≤ 9223372036854775807) (w : World) : Calls Tryz.prog 22 [.int .i64 z].toArray w fun e w' => e = .returned (str (Lib.decDigits z.toNat)) ∧ Keeps none1 w w' := by
 obtain ⟨n, rfl⟩ : ∃ n : Nat, z = n := ⟨z.toNat, by omega⟩
 exact refDigits_c n (by omega) w
theorem decI_len (z : Int) (h1 : z ≤ 9223372036854775807) : (Lib.decDigits z.toNat).length ≤ 20 := dec_len 19 z.toNat (by omega)

theorem refPublic_c (c : Con) (p : CAt) (hn : 0 ≤ c.num) (hn2 : c.num ≤ 9223372036854775807) (w : World) :
  Calls Tryz.prog 25 [.agg (flat (cseg c p))].toArray w fun e w' => ∃ _ : Unit, True ∧ e = .returned (str (keyM c)) ∧ Post w (blocksOf []) [] w' := by
 have hd := decI_len c.num hn2
 have hb := b64_len (pkB c.height c.root)
 rw [pkB_len] at hb
 refine aJ (n := 14) (W := (blocksOf [])) (m := []) Tryz.func25 O Tryz.ntmps25 O (aO _ _ _) ?_
 simp only [SL.enum, Nat.reduceAdd]
 refine ah fun K1 hK1 => aj (am O (bh _ O O O O O) ?_)
 intro b1 _
 try simp only [setN, putD, selM, nth, cw, cx]
 refine aa O O O (ak O O) (ai ?_)
 refine ae (hK1 _ _ ?_)
 refine ah fun K2 hK2 => ck [0] mixed O O ?_
 simp only [List.replicate, List.length_cons, List.length_nil, Nat.reduceAdd, SL.selM, SL.nth]
 refine aG 0 O O O O (by kernel_rfl) (by kernel_rfl) (by kernel_rfl) O (fun _ _ _ h => h) [0] O O (au (k := 55) O O (by kernel_rfl) O) ?_
 refine aG 1 O O O O (by kernel_rfl) (by kernel_rfl) (by kernel_rfl) O (fun _ _ _ h => h) [0] O O (by first | exact al 0 O O O O (by kernel_rfl)) ?_
 refine aG 4 O O O O (by kernel_rfl) (by kernel_rfl) (by kernel_rfl) O (fun _ _ _ h => h) [0] O O (au (k := 56) O O (by kernel_rfl) O) ?_
 refine aG 5 O O O O (by kernel_rfl) (by kernel_rfl) (by kernel_rfl) O (fun _ _ _ h => h) [0] O O (by first | exact al 0 O O O O (by kernel_rfl)) ?_
 refine aG 6 O O O O (by kernel_rfl) (by kernel_rfl) (by kernel_rfl) O (fun _ _ _ h => h) [0] O O (au (k := 57) O O (by kernel_rfl) O) ?_
 refine aG 7 O O O O (by kernel_rfl) (by kernel_rfl) (by kernel_rfl) O (fun _ _ _ h => h) [0] O O (by first | exact ay 0 (k := 16) O O O (by kernel_rfl) O (by kernel_rfl)) ?_
 refine aY 2 O O (by kernel_rfl) O [0] (fun _ => rfl) O (bJ O (aN O O (by kernel_rfl) O O (fun w hM hK => refDigitsI_c c.num hn hn2 w))) ?_
 intro _ _
 try simp only [setN, putD, selM, nth, cw, cx]
 refine aG 3 O O O O (by kernel_rfl) (by kernel_rfl) (by kernel_rfl) O (fun _ _ _ h => h) [0] O O (ba O O (show _ = some (str [32]) from O) (by simp; omega)) ?_
 refine aY 8 O O (by kernel_rfl) O [1] (fun _ => rfl) O (bJ O (aM [] [0] O O (by kernel_rfl) O O O O (fun w hM hK => refBytes_c c.height c.root w))) ?_
 intro v11 _
 try simp only [setN, putD, selM, nth, cw, cx]
 refine SL.OkH.rowShapeH 0 O ?_
 rintro ⟨p11, c11, rfl⟩
 refine aY 9 O O (by kernel_rfl) O [1] (fun _ => rfl) O (bJ O (aN O O (by kernel_rfl) O O (fun w hM hK => b64_c (pkB c.height c.root) _ _ _ (by rw [pkB_len]; decide) w (by have := bK (i := 0) O hM; exact this)))) ?_
 intro _ _
 try simp only [setN, putD, selM, nth, cw, cx]
 refine aG 10 O O O O (by kernel_rfl) (by kernel_rfl) (by kernel_rfl) O (fun _ _ _ h => h) [1] O O (ba O O O (by simp only [List.length_append, List.length_singleton]; omega)) ?_
 refine aG 11 O O O O (by kernel_rfl) (by kernel_rfl) (by kernel_rfl) O (fun _ _ _ h => h) [1] O O (ak O O) ?_
 refine bN (by kernel_rfl) ?_
 refine ae (hK2 _ _ ?_)
 refine aw av (ar O (.cons (.tmp O) .nil) O) (fun w' hM' hK' => ?_)
 exact ⟨(), trivial, rfl, hK', hM'.sel [] rfl⟩
end Go.Proofs.YthfhhkanpnemcaaGreatDoor
namespace Go.Proofs.YthfhhkanpnemcaaGreatDoor
open Go.SL Go.RowKit IntWalk
set_option linter.unusedVariables false
set_option maxRecDepth 100000
set_option linter.unusedSimpArgs false
set_option maxHeartbeats 400000

theorem V_of_E {P : Program} {f : FuncId} {args : Array Value} {w : World} {v : Value} (h : Calls P f args w fun e w' => ∃ _ : Unit, True ∧ e = .returned v ∧ Post w (blocksOf []) [] w') : Calls P f args w fun e w' => e = .returned v ∧ Keeps none1 w w' :=
 h.mono fun e w' ⟨_, _, he, hp⟩ => ⟨he, hp.keeps.mono (fun k ⟨r, hr, _⟩ => by cases hr)⟩

def refsM (c : Con) : List UInt8 := if refErr c.refs = 0 then prM c.refs else []
/-- the lines of the form -/
def partsM (c : Con) : List (List UInt8) := [[110, 97, 109, 101, 32] ++ c.name, [97, 117, 116, 104, 111, 114, 32] ++ hexs c.author.l, [100, 97, 116, 101, 32] ++ Lib.decDigits c.date.toNat, [103, 114, 111, 117, 112, 115, 32] ++ jn [44] c.groups, [115, 117, 98, 106, 101, 99, 116, 32] ++ c.subj, [114, 101, 102, 101, 114, 101, 110, 99, 101, 115, 32] ++ refsM c, [115, 117, 112, 101, 114, 115, 101, 100, 101, 115, 32] ++ msgM c.sup, [99, 111, 110, 116, 114, 111, 108, 32] ++ c.ctl, [100, 105, 115, 116, 114, 105, 98, 117, 116, 105, 111, 110, 32] ++ c.dist, [107, 101, 121, 32] ++ keyM c, [108, 101, 97, 102, 32] ++ Lib.decDigits c.leaf.toNat, []]
def formM (c : Con) : List UInt8 := jn [10] (partsM c) ++ [10] ++ c.body

/-- bounds -/
structure CB (c : Con) : Prop where
 name : c.name.length ≤ 100000
 date : 0 ≤ c.date ∧ c.date ≤ 9223372036854775807
 groups : (jn [44] c.groups).length ≤ 100000
 subj : c.subj.length ≤ 100000
 refs : c.refs.length ≤ 1000
 ctl : c.ctl.length ≤ 100000
 dist : c.dist.length ≤ 100000
 num : 0 ≤ c.num ∧ c.num ≤ 9223372036854775807
 leaf : 0 ≤ c.leaf ∧ c.leaf ≤ 9223372036854775807
 body : c.body.length ≤ 100000

theorem jnA_len (sep : List UInt8) (xs : List (List UInt8)) (k : Nat) (hk : ∀ x ∈ xs, x.length ≤ k) : ∀ i, i ≤ xs.length → (jnA sep xs i).length ≤ (k + sep.length) * i
 | 0, _ => by simp [jnA]
 | i + 1, h => by
  have h1 := jnA_len sep xs k hk i (by omega)
  have h2 : (xs.getD i []).length ≤ k := by
   have : xs.getD i [] = xs[i] := by simp [show i < xs.length by omega]
   rw [this]; exact hk _ (List.getElem_mem _)
  rw [jnA, Nat.mul_succ]
  split <;> simp only [List.length_append] <;> omega

theorem refsM_len (c : Con) (h : c.refs.length ≤ 1000) : (refsM c).length ≤ 72000 := by
 unfold refsM
 split
 ·
  have := jnA_bound c.refs c.refs.length (Nat.le_refl _)
  unfold prM jn
  simp only [idTs, List.length_map] at *
  omega
 ·
  simp
theorem msgM_len (b : B 32) : (msgM b).length ≤ 71 := by
 unfold msgM
 split
 ·
  simp
 ·
  rw [idt_len, b.h]; omega
theorem keyM_len (c : Con) (h : c.num ≤ 9223372036854775807) : (keyM c).length ≤ 200 := by
 have h1 := decI_len c.num h
 have h2 := b64_len (pkB c.height c.root)
 rw [pkB_len] at h2
 unfold keyM
 simp only [List.length_append, List.length_singleton]
 omega

theorem partsM_len (c : Con) (h : CB c) : ∀ x ∈ partsM c, x.length ≤ 100013 := by
 have h1 := h.name; have h2 := hexs_len c.author.l; have h3 := decI_len c.date h.date.2; have h4 := h.groups; have h5 := h.subj
 have h6 := refsM_len c h.refs; have h7 := msgM_len c.sup; have h8 := h.ctl; have h9 := h.dist; have h10 := keyM_len c h.num.2; have h11 := decI_len c.leaf h.leaf.2
 rw [c.author.h] at h2
 intro x hx
 simp only [partsM, List.mem_cons, List.not_mem_nil, or_false] at hx
 rcases hx with rfl | rfl | rfl | rfl | rfl | rfl | rfl | rfl | rfl | rfl | rfl | rfl <;> simp only [List.length_append, List.length_cons, List.length_nil] <;> omega

theorem formM_len (c : Con) (h : CB c) : (jn [10] (partsM c)).length ≤ 1300000 := by
 have := jnA_len [10] (partsM c) 100013 (partsM_len c h) (partsM c).length (Nat.le_refl _)
 have e : (partsM c).length = 12 := rfl
 unfold jn
 rw [e] at this ⊢
 simp only [List.length_cons, List.length_nil] at this
 omega

theorem refForm_c (c : Con) (p : CAt) (h : CB c) (w : World) (hR : CRd w c p) :
  Calls Tryz.prog 11 [.agg (flat (cseg c p))].toArray w fun e w' => e = .returned (str (formM c)) ∧ Keeps none1 w w' := by
 obtain ⟨hg, hr, hgc, hrc⟩ := hR
 have h1 := h.name; have h2 := hexs_len c.author.l; have h3 := decI_len c.date h.date.2; have h4 := h.groups; have h5 := h.subj
 have h6 := refsM_len c h.refs; have h7 := msgM_len c.sup; have h8 := h.ctl; have h9 := h.dist; have h10 := keyM_len c h.num.2; have h11 := decI_len c.leaf h.leaf.2; have h12 := formM_len c h; have h13 := h.body
 rw [c.author.h] at h2
 refine aJ (n := 57) (W := SL.none1) (m := []) Tryz.func11 O Tryz.ntmps11 O (aO _ _ _) ?_
 simp only [SL.enum, Nat.reduceAdd]
 refine ah fun K1 hK1 => aj (am O (bh _ O O O O O) ?_)
 intro b1 _
 try simp only [setN, putD, selM, nth, cw, cx]
 refine aa O O O (ak O O) (ai ?_)
 refine ae (hK1 _ _ ?_)
 refine ah fun K2 hK2 => aj (aa O O O (au (k := 20) O O (by kernel_rfl) O) ?_)
 refine aa O O O (by first | exact al 0 O O O O (by kernel_rfl)) ?_
 refine am O (aM [] [0] O O (by kernel_rfl) O O O O (fun w hM hK => refList_c c.refs p.ra p.rl p.rc (by have := h.refs; omega) w (hr.keep hK))) ?_
 intro v9 _
 try simp only [setN, putD, selM, nth, cw, cx]
 refine SL.Ok.rowAddr 0 O ?_
 intro hv9
 obtain ⟨q9, d9, rfl, hd9⟩ : ∃ q d, v9 = .slice q c.refs.length d ∧ c.refs.length ≤ d := by
  rcases hv9 with ⟨h1, h2⟩ | ⟨g, cc, h1, h2, _⟩
  ·
   exact ⟨none, 0, by rw [h1, h2], by omega⟩
  ·
   exact ⟨_, cc, h1, h2⟩
 refine am O (aN O O (by kernel_rfl) O O (fun w hM hK => refPrintL_c c.refs q9 c.refs.length d9 hd9 w (bK (i := 0) O hM))) ?_
 intro _ _
 try simp only [setN, putD, selM, nth, cw, cx]
 refine aa O O O (af O O) (aa O O O (aW O O O) ?_)
 refine aa O O O (aW O O O) (aa O O O (ak O O) ?_)
 refine aa O O O (ak O O) (ai ?_)
 try rw [show (if refErr c.refs = 0 then prM c.refs else []) = refsM c from rfl]
 refine ae (hK2 _ _ ?_)
 refine ah fun K3 hK3 => SL.Ok.quietLast2 37 O O mixed (by kernel_rfl) (by kernel_rfl) O (by kernel_rfl) O ?_
 refine aA O O O (az (au (k := 0) O O (by kernel_rfl) O)) ?_
 refine aA O O O (az (by first | exact al 0 O O O O (by kernel_rfl) | exact al 1 O O O O (by kernel_rfl))) ?_
 refine aA O O O (az (ba O (show _ = some (str [110, 97, 109, 101, 32]) from O) O (by simp; omega))) ?_
 refine aA O O O (az (au (k := 1) O O (by kernel_rfl) O)) ?_
 refine aA O O O (az (by first | exact ay 0 (k := 16) O O O (by kernel_rfl) O (by kernel_rfl) | exact ay 1 (k := 16) O O O (by kernel_rfl) O (by kernel_rfl))) ?_
 refine aA O O O (bL O O (by kernel_rfl) O (fun w hM hK => refAuthor_c c.author w)) ?_
 refine aA O O O (az (ba O (show _ = some (str [97, 117, 116, 104, 111, 114, 32]) from O) O (by simp; omega))) ?_
 refine aA O O O (az (au (k := 17) O O (by kernel_rfl) O)) ?_
 refine aA O O O (az (by first | exact al 0 O O O O (by kernel_rfl) | exact al 1 O O O O (by kernel_rfl))) ?_
 refine aA O O O (bL O O (by kernel_rfl) O (fun w hM hK => refDigitsI_c c.date h.date.1 h.date.2 w)) ?_
 refine aA O O O (az (ba O (show _ = some (str [100, 97, 116, 101, 32]) from O) O (by simp; omega))) ?_
 refine aA O O O (az (au (k := 18) O O (by kernel_rfl) O)) ?_
 refine aA O O O (az (by first | exact al 0 O O O O (by kernel_rfl) | exact al 1 O O O O (by kernel_rfl))) ?_
 refine aA O O O (bL O O (by kernel_rfl) O (fun w hM hK => refText_c [44] c.groups p.ga p.gl p.gc (by omega) w (hg.keep hK))) ?_
 refine aA O O O (az (ba O (show _ = some (str [103, 114, 111, 117, 112, 115, 32]) from O) O (by simp; omega))) ?_
 refine aA O O O (az (au (k := 19) O O (by kernel_rfl) O)) ?_
 refine aA O O O (az (by first | exact al 0 O O O O (by kernel_rfl) | exact al 1 O O O O (by kernel_rfl))) ?_
 refine aA O O O (az (ba O (show _ = some (str [115, 117, 98, 106, 101, 99, 116, 32]) from O) O (by simp; omega))) ?_
 refine aA O O O (az (af O O)) (aA O O O (az (ba O (show _ = some (str [114, 101, 102, 101, 114, 101, 110, 99, 101, 115, 32]) from O) (show _ = some (str (refsM c)) from O) (by simp; omega))) ?_)
 refine aA O O O (az (au (k := 21) O O (by kernel_rfl) O)) ?_
 refine aA O O O (az (by first | exact ay 0 (k := 32) O O O (by kernel_rfl) O (by kernel_rfl) | exact ay 1 (k := 32) O O O (by kernel_rfl) O (by kernel_rfl))) ?_
 refine aA O O O (bL O O (by kernel_rfl) O (fun w hM hK => refMessage_c c.sup w)) ?_
 refine aA O O O (az (ba O (show _ = some (str [115, 117, 112, 101, 114, 115, 101, 100, 101, 115, 32]) from O) O (by simp; omega))) ?_
 refine aA O O O (az (au (k := 53) O O (by kernel_rfl) O)) ?_
 refine aA O O O (az (by first | exact al 0 O O O O (by kernel_rfl) | exact al 1 O O O O (by kernel_rfl))) ?_
 refine aA O O O (az (ba O (show _ = some (str [99, 111, 110, 116, 114, 111, 108, 32]) from O) O (by simp; omega))) ?_
 refine aA O O O (az (au (k := 54) O O (by kernel_rfl) O)) ?_
 refine aA O O O (az (by first | exact al 0 O O O O (by kernel_rfl) | exact al 1 O O O O (by kernel_rfl))) ?_
 refine aA O O O (az (ba O (show _ = some (str [100, 105, 115, 116, 114, 105, 98, 117, 116, 105, 111, 110, 32]) from O) O (by simp; omega))) ?_
 refine aA O O O (az (by first | exact ay 0 (k := 75) O O O (by kernel_rfl) O (by kernel_rfl) | exact ay 1 (k := 75) O O O (by kernel_rfl) O (by kernel_rfl))) ?_
 refine aA O O O (bL O O (by kernel_rfl) O (fun w hM hK => V_of_E (refPublic_c c p h.num.1 h.num.2 w))) ?_
 refine aA O O O (az (ba O (show _ = some (str [107, 101, 121, 32]) from O) O (by simp; omega))) ?_
 refine aA O O O (az (au (k := 73) O O (by kernel_rfl) O)) ?_
 refine aA O O O (az (by first | exact al 0 O O O O (by kernel_rfl) | exact al 1 O O O O (by kernel_rfl))) ?_
 refine aA O O O (bL O O (by kernel_rfl) O (fun w hM hK => refDigitsI_c c.leaf h.leaf.1 h.leaf.2 w)) ?_
 refine aA O O O (az (ba O (show _ = some (str [108, 101, 97, 102, 32]) from O) O (by simp; omega))) ?_
 refine SL.OkQ.last2 (by exact bW #[str [], str [], str [], str [], str [], str [], str [], str [], str [], str [], str [], str []] ((partsM c).map str) O O Tryz.underlying23 (by kernel_rfl) (by kernel_rfl) O (by decide) O O) (fun g50 _ => bZ O O (ak O O)) ?_
 intro g50 _
 try simp only [setN, putD, selM, nth, cw, cx]
 refine ae (hK3 _ _ ?_)
 refine ah fun K4 hK4 => SL.Ok.quiet mixed (by kernel_rfl) ?_
 refine aA O O O (az (af O O)) (aA O O O (bL O O (by kernel_rfl) O (fun w hM hK => refText_c [10] (partsM c) _ _ _ (by omega) w (bK (i := 0) O hM))) ?_)
 refine aA O O O (az (ba O O (show _ = some (str [10]) from O) (by simp; omega))) ?_
 refine aA O O O (az (au (k := 74) O O (by kernel_rfl) O)) ?_
 refine aA O O O (az (by first | exact al 0 O O O O (by kernel_rfl) | exact al 1 O O O O (by kernel_rfl) | exact al 2 O O O O (by kernel_rfl))) ?_
 refine aA O O O (az (ba O O O (by simp; omega))) ?_
 refine aA O O O (az (ak O O)) (SL.OkQ.done ?_)
 refine ae (hK4 _ _ ?_)
 refine aw av (ar O (.cons (.tmp O) .nil) O) (fun w' hM' hK' => ?_)
 exact ⟨rfl, hK'⟩
end Go.Proofs.YthfhhkanpnemcaaGreatDoor
