/- UTF-8 in plain words, and the contracts of package utf8: classes, sizeOf, within, control. UTF-8: begins, first, Check, Valid. -/
import Derived.Test.YthfhhkanpnemcaaGreatDoorM3
namespace Go.Proofs.YthfhhkanpnemcaaGreatDoor
open Go.SL Go.RowKit IntWalk
set_option linter.unusedVariables false
set_option maxRecDepth 100000
set_option linter.unusedSimpArgs false
set_option maxHeartbeats 400000


abbrev clsg (a b c : UInt8) (p q : Int) : List Seg := [Seg.one (.int .u8 a.toNat) rfl, Seg.one (.int .u8 b.toNat) rfl, Seg.one (.int .u8 c.toNat) rfl, Seg.one (.int .i32 p) rfl, Seg.one (.int .i32 q) rfl]
abbrev CLS : List Seg := clsg 0 127 127 0 127 ++ clsg 194 223 31 128 2047 ++ clsg 224 239 15 2048 65535 ++ clsg 240 244 7 65536 1114111

theorem classes_c (w : World) : Calls Tryz.prog 126 [].toArray w fun e w' => e = .returned (.agg (flat CLS)) ∧ Keeps none1 w w' := by
 refine aJ (n := 6) (W := SL.none1) (m := []) Tryz.func126 O Tryz.ntmps126 O (aO _ _ _) ?_
 simp only [SL.enum, Nat.reduceAdd]
 refine ah fun K1 hK1 => aj (am O (aX [Seg.one (.int .u8 0) rfl, Seg.one (.int .u8 0) rfl, Seg.one (.int .u8 0) rfl, Seg.one (.int .i32 0) rfl, Seg.one (.int .i32 0) rfl, Seg.one (.int .u8 0) rfl, Seg.one (.int .u8 0) rfl, Seg.one (.int .u8 0) rfl, Seg.one (.int .i32 0) rfl, Seg.one (.int .i32 0) rfl, Seg.one (.int .u8 0) rfl, Seg.one (.int .u8 0) rfl, Seg.one (.int .u8 0) rfl, Seg.one (.int .i32 0) rfl, Seg.one (.int .i32 0) rfl, Seg.one (.int .u8 0) rfl, Seg.one (.int .u8 0) rfl, Seg.one (.int .u8 0) rfl, Seg.one (.int .i32 0) rfl, Seg.one (.int .i32 0) rfl] O O O (by kernel_rfl)) ?_)
 intro b0 _
 try simp only [setN, putD, selM, nth, cw, cx]
 refine ai (ae ?_)
 refine hK1 _ _ (ah fun K2 hK2 => ?_)
 refine aj (aa O O O (bg [(0, 1), (1, 1), (2, 1), (3, 1), (4, 1)] [Seg.one (.int .u8 0) rfl, Seg.one (.int .u8 0) rfl, Seg.one (.int .u8 0) rfl, Seg.one (.int .i32 0) rfl, Seg.one (.int .i32 0) rfl] O O (.cons (.one O) (.cons (.one O) (.cons (.one O) (.cons (.one O) (.cons (.one O) .nil))))) (by kernel_rfl) (by kernel_rfl) O) ?_)
 refine aa O O O (bg [(0, 1), (1, 1), (2, 1), (3, 1), (4, 1)] [Seg.one (.int .u8 0) rfl, Seg.one (.int .u8 0) rfl, Seg.one (.int .u8 0) rfl, Seg.one (.int .i32 0) rfl, Seg.one (.int .i32 0) rfl] O O (.cons (.one O) (.cons (.one O) (.cons (.one O) (.cons (.one O) (.cons (.one O) .nil))))) (by kernel_rfl) (by kernel_rfl) O) ?_
 refine aa O O O (bg [(0, 1), (1, 1), (2, 1), (3, 1), (4, 1)] [Seg.one (.int .u8 0) rfl, Seg.one (.int .u8 0) rfl, Seg.one (.int .u8 0) rfl, Seg.one (.int .i32 0) rfl, Seg.one (.int .i32 0) rfl] O O (.cons (.one O) (.cons (.one O) (.cons (.one O) (.cons (.one O) (.cons (.one O) .nil))))) (by kernel_rfl) (by kernel_rfl) O) ?_
 refine aa O O O (bg [(0, 1), (1, 1), (2, 1), (3, 1), (4, 1)] [Seg.one (.int .u8 0) rfl, Seg.one (.int .u8 0) rfl, Seg.one (.int .u8 0) rfl, Seg.one (.int .i32 0) rfl, Seg.one (.int .i32 0) rfl] O O (.cons (.one O) (.cons (.one O) (.cons (.one O) (.cons (.one O) (.cons (.one O) .nil))))) (by kernel_rfl) (by kernel_rfl) O) ?_
 refine aa O O O (bg [(0, 5), (5, 5), (10, 5), (15, 5)] [Seg.one (.int .u8 0) rfl, Seg.one (.int .u8 0) rfl, Seg.one (.int .u8 0) rfl, Seg.one (.int .i32 0) rfl, Seg.one (.int .i32 0) rfl, Seg.one (.int .u8 0) rfl, Seg.one (.int .u8 0) rfl, Seg.one (.int .u8 0) rfl, Seg.one (.int .i32 0) rfl, Seg.one (.int .i32 0) rfl, Seg.one (.int .u8 0) rfl, Seg.one (.int .u8 0) rfl, Seg.one (.int .u8 0) rfl, Seg.one (.int .i32 0) rfl, Seg.one (.int .i32 0) rfl, Seg.one (.int .u8 0) rfl, Seg.one (.int .u8 0) rfl, Seg.one (.int .u8 0) rfl, Seg.one (.int .i32 0) rfl, Seg.one (.int .i32 0) rfl] O O (.cons .agg (.cons .agg (.cons .agg (.cons .agg .nil)))) (by kernel_rfl) (by kernel_rfl) O) ?_
 refine am O (by first | exact ap (k := 20) 0 _ O O O O O O (by kernel_rfl) O O) ?_
 intro _ _
 try simp only [setN, putD, selM, nth, cw, cx]
 refine ai (ae ?_)
 refine hK2 _ _ (aw av (ar O (.cons (by first | exact SL.RV.cellA 0 (k := 20) O O (by kernel_rfl) O (by kernel_rfl)) .nil) O) (fun w' hM' hK' => ?_))
 exact ⟨rfl, hK'⟩

/-- the length of an encoding, by its first byte -/
def szN (c : Nat) : Nat := if c ≤ 127 then 1 else if 194 ≤ c ∧ c ≤ 223 then 2 else if 224 ≤ c ∧ c ≤ 239 then 3 else if 240 ≤ c ∧ c ≤ 244 then 4 else 0
theorem szN_le (c : Nat) : szN c ≤ 4 := by unfold szN; (repeat' split) <;> omega

theorem sizeOf_c (c : UInt8) (w : World) : Calls Tryz.prog 135 [.int .u8 c.toNat].toArray w fun e w' => e = .returned (.int .i64 (szN c.toNat)) ∧ Keeps none1 w w' := by
 have hc := c.toNat_lt
 refine aJ (n := 23) (W := SL.none1) (m := []) Tryz.func135 O Tryz.ntmps135 O (aO _ _ _) ?_
 simp only [SL.enum, Nat.reduceAdd]
 refine ah fun K1 hK1 => aj (aa O O O (ak O O) ?_)
 refine ai (ae ?_)
 refine hK1 _ _ (ah fun K2 hK2 => ?_)
 refine ah fun K3 hK3 => aj (am O (aN O O (by kernel_rfl) O O (fun w hM hK => classes_c w)) ?_)
 intro _ _
 try simp only [setN, putD, selM, nth, cw, cx]
 refine aa O O O (af O O) (ai ?_)
 refine ae (hK3 _ _ ?_)
 refine aK (SL.Ok.loopN 5 ?_)
 refine bz (ah fun K4 hK4 => ?_)
 refine aj (aa O O O (aT O O O) ?_)
 refine ai (ae ?_)
 refine hK4 _ _ (ah fun K5 hK5 => ?_)
 refine bk O (aC ?_)
 refine ae (hK5 _ _ ?_)
 refine ah fun K6 hK6 => aK (ah fun K7 hK7 => ?_)
 refine aj (aa O O O (af O O) ?_)
 refine aa O O O (bY (sz := 5) (i := 0) O O O Tryz.underlying174 (by kernel_rfl) (by kernel_rfl) (by first | decide | omega) (by first | decide | omega) O) ?_
 refine am O (aX [Seg.one (.int .u8 0) rfl, Seg.one (.int .u8 0) rfl, Seg.one (.int .u8 0) rfl, Seg.one (.int .i32 0) rfl, Seg.one (.int .i32 0) rfl] O O O (by kernel_rfl)) ?_
 intro b4 _
 try simp only [setN, putD, selM, nth, cw, cx]
 refine aa O O O (ak O O) (am O (by first | exact ap (k := 5) 0 _ O O O O O O (by kernel_rfl) O O) ?_)
 intro _ _
 try simp only [setN, putD, selM, nth, cw, cx]
 refine ai (ae ?_)
 refine hK7 _ _ (ah fun K8 hK8 => ?_)
 refine aj (aa O O O (af O O) ?_)
 refine aa O O O (au (k := 0) O O (by kernel_rfl) O) ?_
 refine aa O O O (by first | exact al 0 O O O O (by kernel_rfl)) ?_
 refine aa O O O (bB O O O) (aa O O O (af O O) ?_)
 refine aR (d := 14) O (fun hg14 => ?_) (fun hg14 => ?_)
 ·
  refine aq O O O O O O O (af O O) (aq O O O O O O O (au (k := 1) O O (by kernel_rfl) O) ?_)
  refine aq O O O O O O O (by first | exact al 0 O O O O (by kernel_rfl)) ?_
  refine aq O O O O O O O (bD O O O) (aa O O O (aF O O O) ?_)
  refine ai (ae ?_)
  refine hK8 _ _ (aH O (fun hc19 => ?_) (fun hc19 => ?_))
  ·
   refine ah fun K9 hK9 => aj (aa O O O (af O O) ?_)
   refine aa O O O (aL O O O O (by omega) (by omega)) ?_
   refine aa O O O (ak O O) (ai ?_)
   refine ae (hK9 _ _ ?_)
   refine aw (aP (aB (aB (aP (aB av))))) (ar O (.cons (.tmp O) .nil) O) (fun w' hM' hK' => ?_)
   refine ⟨?_, hK'⟩
   have e : ∀ k : Nat, szN c.toNat = k → (Ending.returned (.int .i64 (k : Int)) = Ending.returned (.int .i64 (szN c.toNat : Int))) := fun k h => by rw [h]
   refine e _ ?_
   first | (simp at *; done) | (simp at *; unfold szN; (repeat' split) <;> omega)
  ·
   refine aC (aQ ?_)
   refine ae (hK6 _ _ ?_)
   refine aj (aa O O O (aL O O O O (by omega) (by omega)) ?_)
   refine aa O O O (af O O) (ai ?_)
   refine ae (bz ?_)
   refine ah fun K10 hK10 => aj (aa O O O (aT O O O) ?_)
   refine ai (ae ?_)
   refine hK10 _ _ (ah fun K11 hK11 => ?_)
   refine bk O (aC ?_)
   refine ae (hK11 _ _ ?_)
   refine ah fun K12 hK12 => aK (ah fun K13 hK13 => ?_)
   refine aj (aa O O O (af O O) ?_)
   refine aa O O O (bY (sz := 5) (i := 1) O O O Tryz.underlying174 (by kernel_rfl) (by kernel_rfl) (by first | decide | omega) (by first | decide | omega) O) ?_
   refine am O (aX [Seg.one (.int .u8 0) rfl, Seg.one (.int .u8 0) rfl, Seg.one (.int .u8 0) rfl, Seg.one (.int .i32 0) rfl, Seg.one (.int .i32 0) rfl] O O O (by kernel_rfl)) ?_
   intro b4 _
   try simp only [setN, putD, selM, nth, cw, cx]
   refine aa O O O (ak O O) (am O (by first | exact ap (k := 5) 0 _ O O O O O O (by kernel_rfl) O O | exact ap (k := 5) 1 _ O O O O O O (by kernel_rfl) O O) ?_)
   intro _ _
   try simp only [setN, putD, selM, nth, cw, cx]
   refine ai (ae ?_)
   refine hK13 _ _ (ah fun K14 hK14 => ?_)
   refine aj (aa O O O (af O O) ?_)
   refine aa O O O (au (k := 0) O O (by kernel_rfl) O) ?_
   refine aa O O O (by first | exact al 0 O O O O (by kernel_rfl) | exact al 1 O O O O (by kernel_rfl)) ?_
   refine aa O O O (bB O O O) (aa O O O (af O O) ?_)
   refine aR (d := 14) O (fun hg14 => ?_) (fun hg14 => ?_)
   ·
    refine aq O O O O O O O (af O O) (aq O O O O O O O (au (k := 1) O O (by kernel_rfl) O) ?_)
    refine aq O O O O O O O (by first | exact al 0 O O O O (by kernel_rfl) | exact al 1 O O O O (by kernel_rfl)) ?_
    refine aq O O O O O O O (bD O O O) (aa O O O (aF O O O) ?_)
    refine ai (ae ?_)
    refine hK14 _ _ (aH O (fun hc19 => ?_) (fun hc19 => ?_))
    ·
     refine ah fun K15 hK15 => aj (aa O O O (af O O) ?_)
     refine aa O O O (aL O O O O (by omega) (by omega)) ?_
     refine aa O O O (ak O O) (ai ?_)
     refine ae (hK15 _ _ ?_)
     refine aw (aP (aB (aB (aP (aB av))))) (ar O (.cons (.tmp O) .nil) O) (fun w' hM' hK' => ?_)
     refine ⟨?_, hK'⟩
     have e : ∀ k : Nat, szN c.toNat = k → (Ending.returned (.int .i64 (k : Int)) = Ending.returned (.int .i64 (szN c.toNat : Int))) := fun k h => by rw [h]
     refine e _ ?_
     first | (simp at *; done) | (simp at *; unfold szN; (repeat' split) <;> omega)
    ·
     refine aC (aQ ?_)
     refine ae (hK12 _ _ ?_)
     refine aj (aa O O O (aL O O O O (by omega) (by omega)) ?_)
     refine aa O O O (af O O) (ai ?_)
     refine ae (bz ?_)
     refine ah fun K16 hK16 => aj (aa O O O (aT O O O) ?_)
     refine ai (ae ?_)
     refine hK16 _ _ (ah fun K17 hK17 => ?_)
     refine bk O (aC ?_)
     refine ae (hK17 _ _ ?_)
     refine ah fun K18 hK18 => aK (ah fun K19 hK19 => ?_)
     refine aj (aa O O O (af O O) ?_)
     refine aa O O O (bY (sz := 5) (i := 2) O O O Tryz.underlying174 (by kernel_rfl) (by kernel_rfl) (by first | decide | omega) (by first | decide | omega) O) ?_
     refine am O (aX [Seg.one (.int .u8 0) rfl, Seg.one (.int .u8 0) rfl, Seg.one (.int .u8 0) rfl, Seg.one (.int .i32 0) rfl, Seg.one (.int .i32 0) rfl] O O O (by kernel_rfl)) ?_
     intro b4 _
     try simp only [setN, putD, selM, nth, cw, cx]
     refine aa O O O (ak O O) (am O (by first | exact ap (k := 5) 0 _ O O O O O O (by kernel_rfl) O O | exact ap (k := 5) 1 _ O O O O O O (by kernel_rfl) O O | exact ap (k := 5) 2 _ O O O O O O (by kernel_rfl) O O) ?_)
     intro _ _
     try simp only [setN, putD, selM, nth, cw, cx]
     refine ai (ae ?_)
     refine hK19 _ _ (ah fun K20 hK20 => ?_)
     refine aj (aa O O O (af O O) ?_)
     refine aa O O O (au (k := 0) O O (by kernel_rfl) O) ?_
     refine aa O O O (by first | exact al 0 O O O O (by kernel_rfl) | exact al 1 O O O O (by kernel_rfl) | exact al 2 O O O O (by kernel_rfl)) ?_
     refine aa O O O (bB O O O) (aa O O O (af O O) ?_)
     refine aR (d := 14) O (fun hg14 => ?_) (fun hg14 => ?_)
     ·
      refine aq O O O O O O O (af O O) (aq O O O O O O O (au (k := 1) O O (by kernel_rfl) O) ?_)
      refine aq O O O O O O O (by first | exact al 0 O O O O (by kernel_rfl) | exact al 1 O O O O (by kernel_rfl) | exact al 2 O O O O (by kernel_rfl)) ?_
      refine aq O O O O O O O (bD O O O) (aa O O O (aF O O O) ?_)
      refine ai (ae ?_)
      refine hK20 _ _ (aH O (fun hc19 => ?_) (fun hc19 => ?_))
      ·
       refine ah fun K21 hK21 => aj (aa O O O (af O O) ?_)
       refine aa O O O (aL O O O O (by omega) (by omega)) ?_
       refine aa O O O (ak O O) (ai ?_)
       refine ae (hK21 _ _ ?_)
       refine aw (aP (aB (aB (aP (aB av))))) (ar O (.cons (.tmp O) .nil) O) (fun w' hM' hK' => ?_)
       refine ⟨?_, hK'⟩
       have e : ∀ k : Nat, szN c.toNat = k → (Ending.returned (.int .i64 (k : Int)) = Ending.returned (.int .i64 (szN c.toNat : Int))) := fun k h => by rw [h]
       refine e _ ?_
       first | (simp at *; done) | (simp at *; unfold szN; (repeat' split) <;> omega)
      ·
       refine aC (aQ ?_)
       refine ae (hK18 _ _ ?_)
       refine aj (aa O O O (aL O O O O (by omega) (by omega)) ?_)
       refine aa O O O (af O O) (ai ?_)
       refine ae (bz ?_)
       refine ah fun K22 hK22 => aj (aa O O O (aT O O O) ?_)
       refine ai (ae ?_)
       refine hK22 _ _ (ah fun K23 hK23 => ?_)
       refine bk O (aC ?_)
       refine ae (hK23 _ _ ?_)
       refine ah fun K24 hK24 => aK (ah fun K25 hK25 => ?_)
       refine aj (aa O O O (af O O) ?_)
       refine aa O O O (bY (sz := 5) (i := 3) O O O Tryz.underlying174 (by kernel_rfl) (by kernel_rfl) (by first | decide | omega) (by first | decide | omega) O) ?_
       refine am O (aX [Seg.one (.int .u8 0) rfl, Seg.one (.int .u8 0) rfl, Seg.one (.int .u8 0) rfl, Seg.one (.int .i32 0) rfl, Seg.one (.int .i32 0) rfl] O O O (by kernel_rfl)) ?_
       intro b4 _
       try simp only [setN, putD, selM, nth, cw, cx]
       refine aa O O O (ak O O) (am O (by first | exact ap (k := 5) 0 _ O O O O O O (by kernel_rfl) O O | exact ap (k := 5) 1 _ O O O O O O (by kernel_rfl) O O | exact ap (k := 5) 2 _ O O O O O O (by kernel_rfl) O O | exact ap (k := 5) 3 _ O O O O O O (by kernel_rfl) O O) ?_)
       intro _ _
       try simp only [setN, putD, selM, nth, cw, cx]
       refine ai (ae ?_)
       refine hK25 _ _ (ah fun K26 hK26 => ?_)
       refine aj (aa O O O (af O O) ?_)
       refine aa O O O (au (k := 0) O O (by kernel_rfl) O) ?_
       refine aa O O O (by first | exact al 0 O O O O (by kernel_rfl) | exact al 1 O O O O (by kernel_rfl) | exact al 2 O O O O (by kernel_rfl) | exact al 3 O O O O (by kernel_rfl)) ?_
       refine aa O O O (bB O O O) (aa O O O (af O O) ?_)
       refine aR (d := 14) O (fun hg14 => ?_) (fun hg14 => ?_)
       ·
        refine aq O O O O O O O (af O O) (aq O O O O O O O (au (k := 1) O O (by kernel_rfl) O) ?_)
        refine aq O O O O O O O (by first | exact al 0 O O O O (by kernel_rfl) | exact al 1 O O O O (by kernel_rfl) | exact al 2 O O O O (by kernel_rfl) | exact al 3 O O O O (by kernel_rfl)) ?_
        refine aq O O O O O O O (bD O O O) (aa O O O (aF O O O) ?_)
        refine ai (ae ?_)
        refine hK26 _ _ (aH O (fun hc19 => ?_) (fun hc19 => ?_))
        ·
         refine ah fun K27 hK27 => aj (aa O O O (af O O) ?_)
         refine aa O O O (aL O O O O (by omega) (by omega)) ?_
         refine aa O O O (ak O O) (ai ?_)
         refine ae (hK27 _ _ ?_)
         refine aw (aP (aB (aB (aP (aB av))))) (ar O (.cons (.tmp O) .nil) O) (fun w' hM' hK' => ?_)
         refine ⟨?_, hK'⟩
         have e : ∀ k : Nat, szN c.toNat = k → (Ending.returned (.int .i64 (k : Int)) = Ending.returned (.int .i64 (szN c.toNat : Int))) := fun k h => by rw [h]
         refine e _ ?_
         first | (simp at *; done) | (simp at *; unfold szN; (repeat' split) <;> omega)
        ·
         refine aC (aQ ?_)
         refine ae (hK24 _ _ ?_)
         refine aj (aa O O O (aL O O O O (by omega) (by omega)) ?_)
         refine aa O O O (af O O) (ai ?_)
         refine ae (bz ?_)
         refine ah fun K28 hK28 => aj (aa O O O (aT O O O) ?_)
         refine ai (ae ?_)
         refine hK28 _ _ (ah fun K29 hK29 => ?_)
         refine bq O (aU ?_)
         refine aI (aI ?_)
         refine aV (ae ?_)
         refine hK2 _ _ (ah fun K30 hK30 => ?_)
         refine aj (aa O O O (ak O O) ?_)
         refine ai (ae ?_)
         refine hK30 _ _ (aw av (ar O (.cons (.tmp O) .nil) O) (fun w' hM' hK' => ?_))
         refine ⟨?_, hK'⟩
         have e : ∀ k : Nat, szN c.toNat = k → (Ending.returned (.int .i64 (k : Int)) = Ending.returned (.int .i64 (szN c.toNat : Int))) := fun k h => by rw [h]
         refine e _ ?_
         first | (simp at *; done) | (simp at *; unfold szN; (repeat' split) <;> omega)
       ·
        refine ag O O O O O O O (ag O O O O O O O ?_)
        refine ag O O O O O O O (ag O O O O O O O ?_)
        refine aa O O O (aE O O O) (ai ?_)
        refine ae (hK26 _ _ ?_)
        refine bq O (aC ?_)
        refine aQ (ae ?_)
        refine hK24 _ _ (aj ?_)
        refine aa O O O (aL O O O O (by omega) (by omega)) ?_
        refine aa O O O (af O O) (ai ?_)
        refine ae (bz ?_)
        refine ah fun K31 hK31 => aj (aa O O O (aT O O O) ?_)
        refine ai (ae ?_)
        refine hK31 _ _ (ah fun K32 hK32 => ?_)
        refine bq O (aU ?_)
        refine aI (aI ?_)
        refine aV (ae ?_)
        refine hK2 _ _ (ah fun K33 hK33 => ?_)
        refine aj (aa O O O (ak O O) ?_)
        refine ai (ae ?_)
        refine hK33 _ _ (aw av (ar O (.cons (.tmp O) .nil) O) (fun w' hM' hK' => ?_))
        refine ⟨?_, hK'⟩
        have e : ∀ k : Nat, szN c.toNat = k → (Ending.returned (.int .i64 (k : Int)) = Ending.returned (.int .i64 (szN c.toNat : Int))) := fun k h => by rw [h]
        refine e _ ?_
        first | (simp at *; done) | (simp at *; unfold szN; (repeat' split) <;> omega)
     ·
      refine ag O O O O O O O (ag O O O O O O O ?_)
      refine ag O O O O O O O (ag O O O O O O O ?_)
      refine aa O O O (aE O O O) (ai ?_)
      refine ae (hK20 _ _ ?_)
      refine bq O (aC ?_)
      refine aQ (ae ?_)
      refine hK18 _ _ (aj ?_)
      refine aa O O O (aL O O O O (by omega) (by omega)) ?_
      refine aa O O O (af O O) (ai ?_)
      refine ae (bz ?_)
      refine ah fun K34 hK34 => aj (aa O O O (aT O O O) ?_)
      refine ai (ae ?_)
      refine hK34 _ _ (ah fun K35 hK35 => ?_)
      refine bk O (aC ?_)
      refine ae (hK35 _ _ ?_)
      refine ah fun K36 hK36 => aK (ah fun K37 hK37 => ?_)
      refine aj (aa O O O (af O O) ?_)
      refine aa O O O (bY (sz := 5) (i := 3) O O O Tryz.underlying174 (by kernel_rfl) (by kernel_rfl) (by first | decide | omega) (by first | decide | omega) O) ?_
      refine am O (aX [Seg.one (.int .u8 0) rfl, Seg.one (.int .u8 0) rfl, Seg.one (.int .u8 0) rfl, Seg.one (.int .i32 0) rfl, Seg.one (.int .i32 0) rfl] O O O (by kernel_rfl)) ?_
      intro b4 _
      try simp only [setN, putD, selM, nth, cw, cx]
      refine aa O O O (ak O O) (am O (by first | exact ap (k := 5) 0 _ O O O O O O (by kernel_rfl) O O | exact ap (k := 5) 1 _ O O O O O O (by kernel_rfl) O O | exact ap (k := 5) 2 _ O O O O O O (by kernel_rfl) O O | exact ap (k := 5) 3 _ O O O O O O (by kernel_rfl) O O) ?_)
      intro _ _
      try simp only [setN, putD, selM, nth, cw, cx]
      refine ai (ae ?_)
      refine hK37 _ _ (ah fun K38 hK38 => ?_)
      refine aj (aa O O O (af O O) ?_)
      refine aa O O O (au (k := 0) O O (by kernel_rfl) O) ?_
      refine aa O O O (by first | exact al 0 O O O O (by kernel_rfl) | exact al 1 O O O O (by kernel_rfl) | exact al 2 O O O O (by kernel_rfl) | exact al 3 O O O O (by kernel_rfl)) ?_
      refine aa O O O (bB O O O) (aa O O O (af O O) ?_)
      refine aR (d := 14) O (fun hg14 => ?_) (fun hg14 => ?_)
      ·
       refine aq O O O O O O O (af O O) (aq O O O O O O O (au (k := 1) O O (by kernel_rfl) O) ?_)
       refine aq O O O O O O O (by first | exact al 0 O O O O (by kernel_rfl) | exact al 1 O O O O (by kernel_rfl) | exact al 2 O O O O (by kernel_rfl) | exact al 3 O O O O (by kernel_rfl)) ?_
       refine aq O O O O O O O (bD O O O) (aa O O O (aF O O O) ?_)
       refine ai (ae ?_)
       refine hK38 _ _ (aH O (fun hc19 => ?_) (fun hc19 => ?_))
       ·
        refine ah fun K39 hK39 => aj (aa O O O (af O O) ?_)
        refine aa O O O (aL O O O O (by omega) (by omega)) ?_
        refine aa O O O (ak O O) (ai ?_)
        refine ae (hK39 _ _ ?_)
        refine aw (aP (aB (aB (aP (aB av))))) (ar O (.cons (.tmp O) .nil) O) (fun w' hM' hK' => ?_)
        refine ⟨?_, hK'⟩
        have e : ∀ k : Nat, szN c.toNat = k → (Ending.returned (.int .i64 (k : Int)) = Ending.returned (.int .i64 (szN c.toNat : Int))) := fun k h => by rw [h]
        refine e _ ?_
        first | (simp at *; done) | (simp at *; unfold szN; (repeat' split) <;> omega)
       ·
        refine aC (aQ ?_)
        refine ae (hK36 _ _ ?_)
        refine aj (aa O O O (aL O O O O (by omega) (by omega)) ?_)
        refine aa O O O (af O O) (ai ?_)
        refine ae (bz ?_)
        refine ah fun K40 hK40 => aj (aa O O O (aT O O O) ?_)
        refine ai (ae ?_)
        refine hK40 _ _ (ah fun K41 hK41 => ?_)
        refine bq O (aU ?_)
        refine aI (aI ?_)
        refine aV (ae ?_)
        refine hK2 _ _ (ah fun K42 hK42 => ?_)
        refine aj (aa O O O (ak O O) ?_)
        refine ai (ae ?_)
        refine hK42 _ _ (aw av (ar O (.cons (.tmp O) .nil) O) (fun w' hM' hK' => ?_))
        refine ⟨?_, hK'⟩
        have e : ∀ k : Nat, szN c.toNat = k → (Ending.returned (.int .i64 (k : Int)) = Ending.returned (.int .i64 (szN c.toNat : Int))) := fun k h => by rw [h]
        refine e _ ?_
        first | (simp at *; done) | (simp at *; unfold szN; (repeat' split) <;> omega)
      ·
       refine ag O O O O O O O (ag O O O O O O O ?_)
       refine ag O O O O O O O (ag O O O O O O O ?_)
       refine aa O O O (aE O O O) (ai ?_)
       refine ae (hK38 _ _ ?_)
       refine bq O (aC ?_)
       refine aQ (ae ?_)
       refine hK36 _ _ (aj ?_)
       refine aa O O O (aL O O O O (by omega) (by omega)) ?_
       refine aa O O O (af O O) (ai ?_)
       refine ae (bz ?_)
       refine ah fun K43 hK43 => aj (aa O O O (aT O O O) ?_)
       refine ai (ae ?_)
       refine hK43 _ _ (ah fun K44 hK44 => ?_)
       refine bq O (aU ?_)
       refine aI (aI ?_)
       refine aV (ae ?_)
       refine hK2 _ _ (ah fun K45 hK45 => ?_)
       refine aj (aa O O O (ak O O) ?_)
       refine ai (ae ?_)
       refine hK45 _ _ (aw av (ar O (.cons (.tmp O) .nil) O) (fun w' hM' hK' => ?_))
       refine ⟨?_, hK'⟩
       have e : ∀ k : Nat, szN c.toNat = k → (Ending.returned (.int .i64 (k : Int)) = Ending.returned (.int .i64 (szN c.toNat : Int))) := fun k h => by rw [h]
       refine e _ ?_
       first | (simp at *; done) | (simp at *; unfold szN; (repeat' split) <;> omega)
   ·
    refine ag O O O O O O O (ag O O O O O O O ?_)
    refine ag O O O O O O O (ag O O O O O O O ?_)
    refine aa O O O (aE O O O) (ai ?_)
    refine ae (hK14 _ _ ?_)
    refine bq O (aC ?_)
    refine aQ (ae ?_)
    refine hK12 _ _ (aj ?_)
    refine aa O O O (aL O O O O (by omega) (by omega)) ?_
    refine aa O O O (af O O) (ai ?_)
    refine ae (bz ?_)
    refine ah fun K46 hK46 => aj (aa O O O (aT O O O) ?_)
    refine ai (ae ?_)
    refine hK46 _ _ (ah fun K47 hK47 => ?_)
    refine bk O (aC ?_)
    refine ae (hK47 _ _ ?_)
    refine ah fun K48 hK48 => aK (ah fun K49 hK49 => ?_)
    refine aj (aa O O O (af O O) ?_)
    refine aa O O O (bY (sz := 5) (i := 2) O O O Tryz.underlying174 (by kernel_rfl) (by kernel_rfl) (by first | decide | omega) (by first | decide | omega) O) ?_
    refine am O (aX [Seg.one (.int .u8 0) rfl, Seg.one (.int .u8 0) rfl, Seg.one (.int .u8 0) rfl, Seg.one (.int .i32 0) rfl, Seg.one (.int .i32 0) rfl] O O O (by kernel_rfl)) ?_
    intro b4 _
    try simp only [setN, putD, selM, nth, cw, cx]
    refine aa O O O (ak O O) (am O (by first | exact ap (k := 5) 0 _ O O O O O O (by kernel_rfl) O O | exact ap (k := 5) 1 _ O O O O O O (by kernel_rfl) O O | exact ap (k := 5) 2 _ O O O O O O (by kernel_rfl) O O) ?_)
    intro _ _
    try simp only [setN, putD, selM, nth, cw, cx]
    refine ai (ae ?_)
    refine hK49 _ _ (ah fun K50 hK50 => ?_)
    refine aj (aa O O O (af O O) ?_)
    refine aa O O O (au (k := 0) O O (by kernel_rfl) O) ?_
    refine aa O O O (by first | exact al 0 O O O O (by kernel_rfl) | exact al 1 O O O O (by kernel_rfl) | exact al 2 O O O O (by kernel_rfl)) ?_
    refine aa O O O (bB O O O) (aa O O O (af O O) ?_)
    refine aR (d := 14) O (fun hg14 => ?_) (fun hg14 => ?_)
    ·
     refine aq O O O O O O O (af O O) (aq O O O O O O O (au (k := 1) O O (by kernel_rfl) O) ?_)
     refine aq O O O O O O O (by first | exact al 0 O O O O (by kernel_rfl) | exact al 1 O O O O (by kernel_rfl) | exact al 2 O O O O (by kernel_rfl)) ?_
     refine aq O O O O O O O (bD O O O) (aa O O O (aF O O O) ?_)
     refine ai (ae ?_)
     refine hK50 _ _ (aH O (fun hc19 => ?_) (fun hc19 => ?_))
     ·
      refine ah fun K51 hK51 => aj (aa O O O (af O O) ?_)
      refine aa O O O (aL O O O O (by omega) (by omega)) ?_
      refine aa O O O (ak O O) (ai ?_)
      refine ae (hK51 _ _ ?_)
      refine aw (aP (aB (aB (aP (aB av))))) (ar O (.cons (.tmp O) .nil) O) (fun w' hM' hK' => ?_)
      refine ⟨?_, hK'⟩
      have e : ∀ k : Nat, szN c.toNat = k → (Ending.returned (.int .i64 (k : Int)) = Ending.returned (.int .i64 (szN c.toNat : Int))) := fun k h => by rw [h]
      refine e _ ?_
      first | (simp at *; done) | (simp at *; unfold szN; (repeat' split) <;> omega)
     ·
      refine aC (aQ ?_)
      refine ae (hK48 _ _ ?_)
      refine aj (aa O O O (aL O O O O (by omega) (by omega)) ?_)
      refine aa O O O (af O O) (ai ?_)
      refine ae (bz ?_)
      refine ah fun K52 hK52 => aj (aa O O O (aT O O O) ?_)
      refine ai (ae ?_)
      refine hK52 _ _ (ah fun K53 hK53 => ?_)
      refine bk O (aC ?_)
      refine ae (hK53 _ _ ?_)
      refine ah fun K54 hK54 => aK (ah fun K55 hK55 => ?_)
      refine aj (aa O O O (af O O) ?_)
      refine aa O O O (bY (sz := 5) (i := 3) O O O Tryz.underlying174 (by kernel_rfl) (by kernel_rfl) (by first | decide | omega) (by first | decide | omega) O) ?_
      refine am O (aX [Seg.one (.int .u8 0) rfl, Seg.one (.int .u8 0) rfl, Seg.one (.int .u8 0) rfl, Seg.one (.int .i32 0) rfl, Seg.one (.int .i32 0) rfl] O O O (by kernel_rfl)) ?_
      intro b4 _
      try simp only [setN, putD, selM, nth, cw, cx]
      refine aa O O O (ak O O) (am O (by first | exact ap (k := 5) 0 _ O O O O O O (by kernel_rfl) O O | exact ap (k := 5) 1 _ O O O O O O (by kernel_rfl) O O | exact ap (k := 5) 2 _ O O O O O O (by kernel_rfl) O O | exact ap (k := 5) 3 _ O O O O O O (by kernel_rfl) O O) ?_)
      intro _ _
      try simp only [setN, putD, selM, nth, cw, cx]
      refine ai (ae ?_)
      refine hK55 _ _ (ah fun K56 hK56 => ?_)
      refine aj (aa O O O (af O O) ?_)
      refine aa O O O (au (k := 0) O O (by kernel_rfl) O) ?_
      refine aa O O O (by first | exact al 0 O O O O (by kernel_rfl) | exact al 1 O O O O (by kernel_rfl) | exact al 2 O O O O (by kernel_rfl) | exact al 3 O O O O (by kernel_rfl)) ?_
      refine aa O O O (bB O O O) (aa O O O (af O O) ?_)
      refine aR (d := 14) O (fun hg14 => ?_) (fun hg14 => ?_)
      ·
       refine aq O O O O O O O (af O O) (aq O O O O O O O (au (k := 1) O O (by kernel_rfl) O) ?_)
       refine aq O O O O O O O (by first | exact al 0 O O O O (by kernel_rfl) | exact al 1 O O O O (by kernel_rfl) | exact al 2 O O O O (by kernel_rfl) | exact al 3 O O O O (by kernel_rfl)) ?_
       refine aq O O O O O O O (bD O O O) (aa O O O (aF O O O) ?_)
       refine ai (ae ?_)
       refine hK56 _ _ (aH O (fun hc19 => ?_) (fun hc19 => ?_))
       ·
        refine ah fun K57 hK57 => aj (aa O O O (af O O) ?_)
        refine aa O O O (aL O O O O (by omega) (by omega)) ?_
        refine aa O O O (ak O O) (ai ?_)
        refine ae (hK57 _ _ ?_)
        refine aw (aP (aB (aB (aP (aB av))))) (ar O (.cons (.tmp O) .nil) O) (fun w' hM' hK' => ?_)
        refine ⟨?_, hK'⟩
        have e : ∀ k : Nat, szN c.toNat = k → (Ending.returned (.int .i64 (k : Int)) = Ending.returned (.int .i64 (szN c.toNat : Int))) := fun k h => by rw [h]
        refine e _ ?_
        first | (simp at *; done) | (simp at *; unfold szN; (repeat' split) <;> omega)
       ·
        refine aC (aQ ?_)
        refine ae (hK54 _ _ ?_)
        refine aj (aa O O O (aL O O O O (by omega) (by omega)) ?_)
        refine aa O O O (af O O) (ai ?_)
        refine ae (bz ?_)
        refine ah fun K58 hK58 => aj (aa O O O (aT O O O) ?_)
        refine ai (ae ?_)
        refine hK58 _ _ (ah fun K59 hK59 => ?_)
        refine bq O (aU ?_)
        refine aI (aI ?_)
        refine aV (ae ?_)
        refine hK2 _ _ (ah fun K60 hK60 => ?_)
        refine aj (aa O O O (ak O O) ?_)
        refine ai (ae ?_)
        refine hK60 _ _ (aw av (ar O (.cons (.tmp O) .nil) O) (fun w' hM' hK' => ?_))
        refine ⟨?_, hK'⟩
        have e : ∀ k : Nat, szN c.toNat = k → (Ending.returned (.int .i64 (k : Int)) = Ending.returned (.int .i64 (szN c.toNat : Int))) := fun k h => by rw [h]
        refine e _ ?_
        first | (simp at *; done) | (simp at *; unfold szN; (repeat' split) <;> omega)
      ·
       refine ag O O O O O O O (ag O O O O O O O ?_)
       refine ag O O O O O O O (ag O O O O O O O ?_)
       refine aa O O O (aE O O O) (ai ?_)
       refine ae (hK56 _ _ ?_)
       refine bq O (aC ?_)
       refine aQ (ae ?_)
       refine hK54 _ _ (aj ?_)
       refine aa O O O (aL O O O O (by omega) (by omega)) ?_
       refine aa O O O (af O O) (ai ?_)
       refine ae (bz ?_)
       refine ah fun K61 hK61 => aj (aa O O O (aT O O O) ?_)
       refine ai (ae ?_)
       refine hK61 _ _ (ah fun K62 hK62 => ?_)
       refine bq O (aU ?_)
       refine aI (aI ?_)
       refine aV (ae ?_)
       refine hK2 _ _ (ah fun K63 hK63 => ?_)
       refine aj (aa O O O (ak O O) ?_)
       refine ai (ae ?_)
       refine hK63 _ _ (aw av (ar O (.cons (.tmp O) .nil) O) (fun w' hM' hK' => ?_))
       refine ⟨?_, hK'⟩
       have e : ∀ k : Nat, szN c.toNat = k → (Ending.returned (.int .i64 (k : Int)) = Ending.returned (.int .i64 (szN c.toNat : Int))) := fun k h => by rw [h]
       refine e _ ?_
       first | (simp at *; done) | (simp at *; unfold szN; (repeat' split) <;> omega)
    ·
     refine ag O O O O O O O (ag O O O O O O O ?_)
     refine ag O O O O O O O (ag O O O O O O O ?_)
     refine aa O O O (aE O O O) (ai ?_)
     refine ae (hK50 _ _ ?_)
     refine bq O (aC ?_)
     refine aQ (ae ?_)
     refine hK48 _ _ (aj ?_)
     refine aa O O O (aL O O O O (by omega) (by omega)) ?_
     refine aa O O O (af O O) (ai ?_)
     refine ae (bz ?_)
     refine ah fun K64 hK64 => aj (aa O O O (aT O O O) ?_)
     refine ai (ae ?_)
     refine hK64 _ _ (ah fun K65 hK65 => ?_)
     refine bk O (aC ?_)
     refine ae (hK65 _ _ ?_)
     refine ah fun K66 hK66 => aK (ah fun K67 hK67 => ?_)
     refine aj (aa O O O (af O O) ?_)
     refine aa O O O (bY (sz := 5) (i := 3) O O O Tryz.underlying174 (by kernel_rfl) (by kernel_rfl) (by first | decide | omega) (by first | decide | omega) O) ?_
     refine am O (aX [Seg.one (.int .u8 0) rfl, Seg.one (.int .u8 0) rfl, Seg.one (.int .u8 0) rfl, Seg.one (.int .i32 0) rfl, Seg.one (.int .i32 0) rfl] O O O (by kernel_rfl)) ?_
     intro b4 _
     try simp only [setN, putD, selM, nth, cw, cx]
     refine aa O O O (ak O O) (am O (by first | exact ap (k := 5) 0 _ O O O O O O (by kernel_rfl) O O | exact ap (k := 5) 1 _ O O O O O O (by kernel_rfl) O O | exact ap (k := 5) 2 _ O O O O O O (by kernel_rfl) O O | exact ap (k := 5) 3 _ O O O O O O (by kernel_rfl) O O) ?_)
     intro _ _
     try simp only [setN, putD, selM, nth, cw, cx]
     refine ai (ae ?_)
     refine hK67 _ _ (ah fun K68 hK68 => ?_)
     refine aj (aa O O O (af O O) ?_)
     refine aa O O O (au (k := 0) O O (by kernel_rfl) O) ?_
     refine aa O O O (by first | exact al 0 O O O O (by kernel_rfl) | exact al 1 O O O O (by kernel_rfl) | exact al 2 O O O O (by kernel_rfl) | exact al 3 O O O O (by kernel_rfl)) ?_
     refine aa O O O (bB O O O) (aa O O O (af O O) ?_)
     refine aR (d := 14) O (fun hg14 => ?_) (fun hg14 => ?_)
     ·
      refine aq O O O O O O O (af O O) (aq O O O O O O O (au (k := 1) O O (by kernel_rfl) O) ?_)
      refine aq O O O O O O O (by first | exact al 0 O O O O (by kernel_rfl) | exact al 1 O O O O (by kernel_rfl) | exact al 2 O O O O (by kernel_rfl) | exact al 3 O O O O (by kernel_rfl)) ?_
      refine aq O O O O O O O (bD O O O) (aa O O O (aF O O O) ?_)
      refine ai (ae ?_)
      refine hK68 _ _ (aH O (fun hc19 => ?_) (fun hc19 => ?_))
      ·
       refine ah fun K69 hK69 => aj (aa O O O (af O O) ?_)
       refine aa O O O (aL O O O O (by omega) (by omega)) ?_
       refine aa O O O (ak O O) (ai ?_)
       refine ae (hK69 _ _ ?_)
       refine aw (aP (aB (aB (aP (aB av))))) (ar O (.cons (.tmp O) .nil) O) (fun w' hM' hK' => ?_)
       refine ⟨?_, hK'⟩
       have e : ∀ k : Nat, szN c.toNat = k → (Ending.returned (.int .i64 (k : Int)) = Ending.returned (.int .i64 (szN c.toNat : Int))) := fun k h => by rw [h]
       refine e _ ?_
       first | (simp at *; done) | (simp at *; unfold szN; (repeat' split) <;> omega)
      ·
       refine aC (aQ ?_)
       refine ae (hK66 _ _ ?_)
       refine aj (aa O O O (aL O O O O (by omega) (by omega)) ?_)
       refine aa O O O (af O O) (ai ?_)
       refine ae (bz ?_)
       refine ah fun K70 hK70 => aj (aa O O O (aT O O O) ?_)
       refine ai (ae ?_)
       refine hK70 _ _ (ah fun K71 hK71 => ?_)
       refine bq O (aU ?_)
       refine aI (aI ?_)
       refine aV (ae ?_)
       refine hK2 _ _ (ah fun K72 hK72 => ?_)
       refine aj (aa O O O (ak O O) ?_)
       refine ai (ae ?_)
       refine hK72 _ _ (aw av (ar O (.cons (.tmp O) .nil) O) (fun w' hM' hK' => ?_))
       refine ⟨?_, hK'⟩
       have e : ∀ k : Nat, szN c.toNat = k → (Ending.returned (.int .i64 (k : Int)) = Ending.returned (.int .i64 (szN c.toNat : Int))) := fun k h => by rw [h]
       refine e _ ?_
       first | (simp at *; done) | (simp at *; unfold szN; (repeat' split) <;> omega)
     ·
      refine ag O O O O O O O (ag O O O O O O O ?_)
      refine ag O O O O O O O (ag O O O O O O O ?_)
      refine aa O O O (aE O O O) (ai ?_)
      refine ae (hK68 _ _ ?_)
      refine bq O (aC ?_)
      refine aQ (ae ?_)
      refine hK66 _ _ (aj ?_)
      refine aa O O O (aL O O O O (by omega) (by omega)) ?_
      refine aa O O O (af O O) (ai ?_)
      refine ae (bz ?_)
      refine ah fun K73 hK73 => aj (aa O O O (aT O O O) ?_)
      refine ai (ae ?_)
      refine hK73 _ _ (ah fun K74 hK74 => ?_)
      refine bq O (aU ?_)
      refine aI (aI ?_)
      refine aV (ae ?_)
      refine hK2 _ _ (ah fun K75 hK75 => ?_)
      refine aj (aa O O O (ak O O) ?_)
      refine ai (ae ?_)
      refine hK75 _ _ (aw av (ar O (.cons (.tmp O) .nil) O) (fun w' hM' hK' => ?_))
      refine ⟨?_, hK'⟩
      have e : ∀ k : Nat, szN c.toNat = k → (Ending.returned (.int .i64 (k : Int)) = Ending.returned (.int .i64 (szN c.toNat : Int))) := fun k h => by rw [h]
      refine e _ ?_
      first | (simp at *; done) | (simp at *; unfold szN; (repeat' split) <;> omega)
 ·
  refine ag O O O O O O O (ag O O O O O O O ?_)
  refine ag O O O O O O O (ag O O O O O O O ?_)
  refine aa O O O (aE O O O) (ai ?_)
  refine ae (hK8 _ _ ?_)
  refine bq O (aC ?_)
  refine aQ (ae ?_)
  refine hK6 _ _ (aj ?_)
  refine aa O O O (aL O O O O (by omega) (by omega)) ?_
  refine aa O O O (af O O) (ai ?_)
  refine ae (bz ?_)
  refine ah fun K76 hK76 => aj (aa O O O (aT O O O) ?_)
  refine ai (ae ?_)
  refine hK76 _ _ (ah fun K77 hK77 => ?_)
  refine bk O (aC ?_)
  refine ae (hK77 _ _ ?_)
  refine ah fun K78 hK78 => aK (ah fun K79 hK79 => ?_)
  refine aj (aa O O O (af O O) ?_)
  refine aa O O O (bY (sz := 5) (i := 1) O O O Tryz.underlying174 (by kernel_rfl) (by kernel_rfl) (by first | decide | omega) (by first | decide | omega) O) ?_
  refine am O (aX [Seg.one (.int .u8 0) rfl, Seg.one (.int .u8 0) rfl, Seg.one (.int .u8 0) rfl, Seg.one (.int .i32 0) rfl, Seg.one (.int .i32 0) rfl] O O O (by kernel_rfl)) ?_
  intro b4 _
  try simp only [setN, putD, selM, nth, cw, cx]
  refine aa O O O (ak O O) (am O (by first | exact ap (k := 5) 0 _ O O O O O O (by kernel_rfl) O O | exact ap (k := 5) 1 _ O O O O O O (by kernel_rfl) O O) ?_)
  intro _ _
  try simp only [setN, putD, selM, nth, cw, cx]
  refine ai (ae ?_)
  refine hK79 _ _ (ah fun K80 hK80 => ?_)
  refine aj (aa O O O (af O O) ?_)
  refine aa O O O (au (k := 0) O O (by kernel_rfl) O) ?_
  refine aa O O O (by first | exact al 0 O O O O (by kernel_rfl) | exact al 1 O O O O (by kernel_rfl)) ?_
  refine aa O O O (bB O O O) (aa O O O (af O O) ?_)
  refine aR (d := 14) O (fun hg14 => ?_) (fun hg14 => ?_)
  ·
   refine aq O O O O O O O (af O O) (aq O O O O O O O (au (k := 1) O O (by kernel_rfl) O) ?_)
   refine aq O O O O O O O (by first | exact al 0 O O O O (by kernel_rfl) | exact al 1 O O O O (by kernel_rfl)) ?_
   refine aq O O O O O O O (bD O O O) (aa O O O (aF O O O) ?_)
   refine ai (ae ?_)
   refine hK80 _ _ (aH O (fun hc19 => ?_) (fun hc19 => ?_))
   ·
    refine ah fun K81 hK81 => aj (aa O O O (af O O) ?_)
    refine aa O O O (aL O O O O (by omega) (by omega)) ?_
    refine aa O O O (ak O O) (ai ?_)
    refine ae (hK81 _ _ ?_)
    refine aw (aP (aB (aB (aP (aB av))))) (ar O (.cons (.tmp O) .nil) O) (fun w' hM' hK' => ?_)
    refine ⟨?_, hK'⟩
    have e : ∀ k : Nat, szN c.toNat = k → (Ending.returned (.int .i64 (k : Int)) = Ending.returned (.int .i64 (szN c.toNat : Int))) := fun k h => by rw [h]
    refine e _ ?_
    first | (simp at *; done) | (simp at *; unfold szN; (repeat' split) <;> omega)
   ·
    refine aC (aQ ?_)
    refine ae (hK78 _ _ ?_)
    refine aj (aa O O O (aL O O O O (by omega) (by omega)) ?_)
    refine aa O O O (af O O) (ai ?_)
    refine ae (bz ?_)
    refine ah fun K82 hK82 => aj (aa O O O (aT O O O) ?_)
    refine ai (ae ?_)
    refine hK82 _ _ (ah fun K83 hK83 => ?_)
    refine bk O (aC ?_)
    refine ae (hK83 _ _ ?_)
    refine ah fun K84 hK84 => aK (ah fun K85 hK85 => ?_)
    refine aj (aa O O O (af O O) ?_)
    refine aa O O O (bY (sz := 5) (i := 2) O O O Tryz.underlying174 (by kernel_rfl) (by kernel_rfl) (by first | decide | omega) (by first | decide | omega) O) ?_
    refine am O (aX [Seg.one (.int .u8 0) rfl, Seg.one (.int .u8 0) rfl, Seg.one (.int .u8 0) rfl, Seg.one (.int .i32 0) rfl, Seg.one (.int .i32 0) rfl] O O O (by kernel_rfl)) ?_
    intro b4 _
    try simp only [setN, putD, selM, nth, cw, cx]
    refine aa O O O (ak O O) (am O (by first | exact ap (k := 5) 0 _ O O O O O O (by kernel_rfl) O O | exact ap (k := 5) 1 _ O O O O O O (by kernel_rfl) O O | exact ap (k := 5) 2 _ O O O O O O (by kernel_rfl) O O) ?_)
    intro _ _
    try simp only [setN, putD, selM, nth, cw, cx]
    refine ai (ae ?_)
    refine hK85 _ _ (ah fun K86 hK86 => ?_)
    refine aj (aa O O O (af O O) ?_)
    refine aa O O O (au (k := 0) O O (by kernel_rfl) O) ?_
    refine aa O O O (by first | exact al 0 O O O O (by kernel_rfl) | exact al 1 O O O O (by kernel_rfl) | exact al 2 O O O O (by kernel_rfl)) ?_
    refine aa O O O (bB O O O) (aa O O O (af O O) ?_)
    refine aR (d := 14) O (fun hg14 => ?_) (fun hg14 => ?_)
    ·
     refine aq O O O O O O O (af O O) (aq O O O O O O O (au (k := 1) O O (by kernel_rfl) O) ?_)
     refine aq O O O O O O O (by first | exact al 0 O O O O (by kernel_rfl) | exact al 1 O O O O (by kernel_rfl) | exact al 2 O O O O (by kernel_rfl)) ?_
     refine aq O O O O O O O (bD O O O) (aa O O O (aF O O O) ?_)
     refine ai (ae ?_)
     refine hK86 _ _ (aH O (fun hc19 => ?_) (fun hc19 => ?_))
     ·
      refine ah fun K87 hK87 => aj (aa O O O (af O O) ?_)
      refine aa O O O (aL O O O O (by omega) (by omega)) ?_
      refine aa O O O (ak O O) (ai ?_)
      refine ae (hK87 _ _ ?_)
      refine aw (aP (aB (aB (aP (aB av))))) (ar O (.cons (.tmp O) .nil) O) (fun w' hM' hK' => ?_)
      refine ⟨?_, hK'⟩
      have e : ∀ k : Nat, szN c.toNat = k → (Ending.returned (.int .i64 (k : Int)) = Ending.returned (.int .i64 (szN c.toNat : Int))) := fun k h => by rw [h]
      refine e _ ?_
      first | (simp at *; done) | (simp at *; unfold szN; (repeat' split) <;> omega)
     ·
      refine aC (aQ ?_)
      refine ae (hK84 _ _ ?_)
      refine aj (aa O O O (aL O O O O (by omega) (by omega)) ?_)
      refine aa O O O (af O O) (ai ?_)
      refine ae (bz ?_)
      refine ah fun K88 hK88 => aj (aa O O O (aT O O O) ?_)
      refine ai (ae ?_)
      refine hK88 _ _ (ah fun K89 hK89 => ?_)
      refine bk O (aC ?_)
      refine ae (hK89 _ _ ?_)
      refine ah fun K90 hK90 => aK (ah fun K91 hK91 => ?_)
      refine aj (aa O O O (af O O) ?_)
      refine aa O O O (bY (sz := 5) (i := 3) O O O Tryz.underlying174 (by kernel_rfl) (by kernel_rfl) (by first | decide | omega) (by first | decide | omega) O) ?_
      refine am O (aX [Seg.one (.int .u8 0) rfl, Seg.one (.int .u8 0) rfl, Seg.one (.int .u8 0) rfl, Seg.one (.int .i32 0) rfl, Seg.one (.int .i32 0) rfl] O O O (by kernel_rfl)) ?_
      intro b4 _
      try simp only [setN, putD, selM, nth, cw, cx]
      refine aa O O O (ak O O) (am O (by first | exact ap (k := 5) 0 _ O O O O O O (by kernel_rfl) O O | exact ap (k := 5) 1 _ O O O O O O (by kernel_rfl) O O | exact ap (k := 5) 2 _ O O O O O O (by kernel_rfl) O O | exact ap (k := 5) 3 _ O O O O O O (by kernel_rfl) O O) ?_)
      intro _ _
      try simp only [setN, putD, selM, nth, cw, cx]
      refine ai (ae ?_)
      refine hK91 _ _ (ah fun K92 hK92 => ?_)
      refine aj (aa O O O (af O O) ?_)
      refine aa O O O (au (k := 0) O O (by kernel_rfl) O) ?_
      refine aa O O O (by first | exact al 0 O O O O (by kernel_rfl) | exact al 1 O O O O (by kernel_rfl) | exact al 2 O O O O (by kernel_rfl) | exact al 3 O O O O (by kernel_rfl)) ?_
      refine aa O O O (bB O O O) (aa O O O (af O O) ?_)
      refine aR (d := 14) O (fun hg14 => ?_) (fun hg14 => ?_)
      ·
       refine aq O O O O O O O (af O O) (aq O O O O O O O (au (k := 1) O O (by kernel_rfl) O) ?_)
       refine aq O O O O O O O (by first | exact al 0 O O O O (by kernel_rfl) | exact al 1 O O O O (by kernel_rfl) | exact al 2 O O O O (by kernel_rfl) | exact al 3 O O O O (by kernel_rfl)) ?_
       refine aq O O O O O O O (bD O O O) (aa O O O (aF O O O) ?_)
       refine ai (ae ?_)
       refine hK92 _ _ (aH O (fun hc19 => ?_) (fun hc19 => ?_))
       ·
        refine ah fun K93 hK93 => aj (aa O O O (af O O) ?_)
        refine aa O O O (aL O O O O (by omega) (by omega)) ?_
        refine aa O O O (ak O O) (ai ?_)
        refine ae (hK93 _ _ ?_)
        refine aw (aP (aB (aB (aP (aB av))))) (ar O (.cons (.tmp O) .nil) O) (fun w' hM' hK' => ?_)
        refine ⟨?_, hK'⟩
        have e : ∀ k : Nat, szN c.toNat = k → (Ending.returned (.int .i64 (k : Int)) = Ending.returned (.int .i64 (szN c.toNat : Int))) := fun k h => by rw [h]
        refine e _ ?_
        first | (simp at *; done) | (simp at *; unfold szN; (repeat' split) <;> omega)
       ·
        refine aC (aQ ?_)
        refine ae (hK90 _ _ ?_)
        refine aj (aa O O O (aL O O O O (by omega) (by omega)) ?_)
        refine aa O O O (af O O) (ai ?_)
        refine ae (bz ?_)
        refine ah fun K94 hK94 => aj (aa O O O (aT O O O) ?_)
        refine ai (ae ?_)
        refine hK94 _ _ (ah fun K95 hK95 => ?_)
        refine bq O (aU ?_)
        refine aI (aI ?_)
        refine aV (ae ?_)
        refine hK2 _ _ (ah fun K96 hK96 => ?_)
        refine aj (aa O O O (ak O O) ?_)
        refine ai (ae ?_)
        refine hK96 _ _ (aw av (ar O (.cons (.tmp O) .nil) O) (fun w' hM' hK' => ?_))
        refine ⟨?_, hK'⟩
        have e : ∀ k : Nat, szN c.toNat = k → (Ending.returned (.int .i64 (k : Int)) = Ending.returned (.int .i64 (szN c.toNat : Int))) := fun k h => by rw [h]
        refine e _ ?_
        first | (simp at *; done) | (simp at *; unfold szN; (repeat' split) <;> omega)
      ·
       refine ag O O O O O O O (ag O O O O O O O ?_)
       refine ag O O O O O O O (ag O O O O O O O ?_)
       refine aa O O O (aE O O O) (ai ?_)
       refine ae (hK92 _ _ ?_)
       refine bq O (aC ?_)
       refine aQ (ae ?_)
       refine hK90 _ _ (aj ?_)
       refine aa O O O (aL O O O O (by omega) (by omega)) ?_
       refine aa O O O (af O O) (ai ?_)
       refine ae (bz ?_)
       refine ah fun K97 hK97 => aj (aa O O O (aT O O O) ?_)
       refine ai (ae ?_)
       refine hK97 _ _ (ah fun K98 hK98 => ?_)
       refine bq O (aU ?_)
       refine aI (aI ?_)
       refine aV (ae ?_)
       refine hK2 _ _ (ah fun K99 hK99 => ?_)
       refine aj (aa O O O (ak O O) ?_)
       refine ai (ae ?_)
       refine hK99 _ _ (aw av (ar O (.cons (.tmp O) .nil) O) (fun w' hM' hK' => ?_))
       refine ⟨?_, hK'⟩
       have e : ∀ k : Nat, szN c.toNat = k → (Ending.returned (.int .i64 (k : Int)) = Ending.returned (.int .i64 (szN c.toNat : Int))) := fun k h => by rw [h]
       refine e _ ?_
       first | (simp at *; done) | (simp at *; unfold szN; (repeat' split) <;> omega)
    ·
     refine ag O O O O O O O (ag O O O O O O O ?_)
     refine ag O O O O O O O (ag O O O O O O O ?_)
     refine aa O O O (aE O O O) (ai ?_)
     refine ae (hK86 _ _ ?_)
     refine bq O (aC ?_)
     refine aQ (ae ?_)
     refine hK84 _ _ (aj ?_)
     refine aa O O O (aL O O O O (by omega) (by omega)) ?_
     refine aa O O O (af O O) (ai ?_)
     refine ae (bz ?_)
     refine ah fun K100 hK100 => aj (aa O O O (aT O O O) ?_)
     refine ai (ae ?_)
     refine hK100 _ _ (ah fun K101 hK101 => ?_)
     refine bk O (aC ?_)
     refine ae (hK101 _ _ ?_)
     refine ah fun K102 hK102 => aK (ah fun K103 hK103 => ?_)
     refine aj (aa O O O (af O O) ?_)
     refine aa O O O (bY (sz := 5) (i := 3) O O O Tryz.underlying174 (by kernel_rfl) (by kernel_rfl) (by first | decide | omega) (by first | decide | omega) O) ?_
     refine am O (aX [Seg.one (.int .u8 0) rfl, Seg.one (.int .u8 0) rfl, Seg.one (.int .u8 0) rfl, Seg.one (.int .i32 0) rfl, Seg.one (.int .i32 0) rfl] O O O (by kernel_rfl)) ?_
     intro b4 _
     try simp only [setN, putD, selM, nth, cw, cx]
     refine aa O O O (ak O O) (am O (by first | exact ap (k := 5) 0 _ O O O O O O (by kernel_rfl) O O | exact ap (k := 5) 1 _ O O O O O O (by kernel_rfl) O O | exact ap (k := 5) 2 _ O O O O O O (by kernel_rfl) O O | exact ap (k := 5) 3 _ O O O O O O (by kernel_rfl) O O) ?_)
     intro _ _
     try simp only [setN, putD, selM, nth, cw, cx]
     refine ai (ae ?_)
     refine hK103 _ _ (ah fun K104 hK104 => ?_)
     refine aj (aa O O O (af O O) ?_)
     refine aa O O O (au (k := 0) O O (by kernel_rfl) O) ?_
     refine aa O O O (by first | exact al 0 O O O O (by kernel_rfl) | exact al 1 O O O O (by kernel_rfl) | exact al 2 O O O O (by kernel_rfl) | exact al 3 O O O O (by kernel_rfl)) ?_
     refine aa O O O (bB O O O) (aa O O O (af O O) ?_)
     refine aR (d := 14) O (fun hg14 => ?_) (fun hg14 => ?_)
     ·
      refine aq O O O O O O O (af O O) (aq O O O O O O O (au (k := 1) O O (by kernel_rfl) O) ?_)
      refine aq O O O O O O O (by first | exact al 0 O O O O (by kernel_rfl) | exact al 1 O O O O (by kernel_rfl) | exact al 2 O O O O (by kernel_rfl) | exact al 3 O O O O (by kernel_rfl)) ?_
      refine aq O O O O O O O (bD O O O) (aa O O O (aF O O O) ?_)
      refine ai (ae ?_)
      refine hK104 _ _ (aH O (fun hc19 => ?_) (fun hc19 => ?_))
      ·
       refine ah fun K105 hK105 => aj (aa O O O (af O O) ?_)
       refine aa O O O (aL O O O O (by omega) (by omega)) ?_
       refine aa O O O (ak O O) (ai ?_)
       refine ae (hK105 _ _ ?_)
       refine aw (aP (aB (aB (aP (aB av))))) (ar O (.cons (.tmp O) .nil) O) (fun w' hM' hK' => ?_)
       refine ⟨?_, hK'⟩
       have e : ∀ k : Nat, szN c.toNat = k → (Ending.returned (.int .i64 (k : Int)) = Ending.returned (.int .i64 (szN c.toNat : Int))) := fun k h => by rw [h]
       refine e _ ?_
       first | (simp at *; done) | (simp at *; unfold szN; (repeat' split) <;> omega)
      ·
       refine aC (aQ ?_)
       refine ae (hK102 _ _ ?_)
       refine aj (aa O O O (aL O O O O (by omega) (by omega)) ?_)
       refine aa O O O (af O O) (ai ?_)
       refine ae (bz ?_)
       refine ah fun K106 hK106 => aj (aa O O O (aT O O O) ?_)
       refine ai (ae ?_)
       refine hK106 _ _ (ah fun K107 hK107 => ?_)
       refine bq O (aU ?_)
       refine aI (aI ?_)
       refine aV (ae ?_)
       refine hK2 _ _ (ah fun K108 hK108 => ?_)
       refine aj (aa O O O (ak O O) ?_)
       refine ai (ae ?_)
       refine hK108 _ _ (aw av (ar O (.cons (.tmp O) .nil) O) (fun w' hM' hK' => ?_))
       refine ⟨?_, hK'⟩
       have e : ∀ k : Nat, szN c.toNat = k → (Ending.returned (.int .i64 (k : Int)) = Ending.returned (.int .i64 (szN c.toNat : Int))) := fun k h => by rw [h]
       refine e _ ?_
       first | (simp at *; done) | (simp at *; unfold szN; (repeat' split) <;> omega)
     ·
      refine ag O O O O O O O (ag O O O O O O O ?_)
      refine ag O O O O O O O (ag O O O O O O O ?_)
      refine aa O O O (aE O O O) (ai ?_)
      refine ae (hK104 _ _ ?_)
      refine bq O (aC ?_)
      refine aQ (ae ?_)
      refine hK102 _ _ (aj ?_)
      refine aa O O O (aL O O O O (by omega) (by omega)) ?_
      refine aa O O O (af O O) (ai ?_)
      refine ae (bz ?_)
      refine ah fun K109 hK109 => aj (aa O O O (aT O O O) ?_)
      refine ai (ae ?_)
      refine hK109 _ _ (ah fun K110 hK110 => ?_)
      refine bq O (aU ?_)
      refine aI (aI ?_)
      refine aV (ae ?_)
      refine hK2 _ _ (ah fun K111 hK111 => ?_)
      refine aj (aa O O O (ak O O) ?_)
      refine ai (ae ?_)
      refine hK111 _ _ (aw av (ar O (.cons (.tmp O) .nil) O) (fun w' hM' hK' => ?_))
      refine ⟨?_, hK'⟩
      have e : ∀ k : Nat, szN c.toNat = k → (Ending.returned (.int .i64 (k : Int)) = Ending.returned (.int .i64 (szN c.toNat : Int))) := fun k h => by rw [h]
      refine e _ ?_
      first | (simp at *; done) | (simp at *; unfold szN; (repeat' split) <;> omega)
  ·
   refine ag O O O O O O O (ag O O O O O O O ?_)
   refine ag O O O O O O O (ag O O O O O O O ?_)
   refine aa O O O (aE O O O) (ai ?_)
   refine ae (hK80 _ _ ?_)
   refine bq O (aC ?_)
   refine aQ (ae ?_)
   refine hK78 _ _ (aj ?_)
   refine aa O O O (aL O O O O (by omega) (by omega)) ?_
   refine aa O O O (af O O) (ai ?_)
   refine ae (bz ?_)
   refine ah fun K112 hK112 => aj (aa O O O (aT O O O) ?_)
   refine ai (ae ?_)
   refine hK112 _ _ (ah fun K113 hK113 => ?_)
   refine bk O (aC ?_)
   refine ae (hK113 _ _ ?_)
   refine ah fun K114 hK114 => aK (ah fun K115 hK115 => ?_)
   refine aj (aa O O O (af O O) ?_)
   refine aa O O O (bY (sz := 5) (i := 2) O O O Tryz.underlying174 (by kernel_rfl) (by kernel_rfl) (by first | decide | omega) (by first | decide | omega) O) ?_
   refine am O (aX [Seg.one (.int .u8 0) rfl, Seg.one (.int .u8 0) rfl, Seg.one (.int .u8 0) rfl, Seg.one (.int .i32 0) rfl, Seg.one (.int .i32 0) rfl] O O O (by kernel_rfl)) ?_
   intro b4 _
   try simp only [setN, putD, selM, nth, cw, cx]
   refine aa O O O (ak O O) (am O (by first | exact ap (k := 5) 0 _ O O O O O O (by kernel_rfl) O O | exact ap (k := 5) 1 _ O O O O O O (by kernel_rfl) O O | exact ap (k := 5) 2 _ O O O O O O (by kernel_rfl) O O) ?_)
   intro _ _
   try simp only [setN, putD, selM, nth, cw, cx]
   refine ai (ae ?_)
   refine hK115 _ _ (ah fun K116 hK116 => ?_)
   refine aj (aa O O O (af O O) ?_)
   refine aa O O O (au (k := 0) O O (by kernel_rfl) O) ?_
   refine aa O O O (by first | exact al 0 O O O O (by kernel_rfl) | exact al 1 O O O O (by kernel_rfl) | exact al 2 O O O O (by kernel_rfl)) ?_
   refine aa O O O (bB O O O) (aa O O O (af O O) ?_)
   refine aR (d := 14) O (fun hg14 => ?_) (fun hg14 => ?_)
   ·
    refine aq O O O O O O O (af O O) (aq O O O O O O O (au (k := 1) O O (by kernel_rfl) O) ?_)
    refine aq O O O O O O O (by first | exact al 0 O O O O (by kernel_rfl) | exact al 1 O O O O (by kernel_rfl) | exact al 2 O O O O (by kernel_rfl)) ?_
    refine aq O O O O O O O (bD O O O) (aa O O O (aF O O O) ?_)
    refine ai (ae ?_)
    refine hK116 _ _ (aH O (fun hc19 => ?_) (fun hc19 => ?_))
    ·
     refine ah fun K117 hK117 => aj (aa O O O (af O O) ?_)
     refine aa O O O (aL O O O O (by omega) (by omega)) ?_
     refine aa O O O (ak O O) (ai ?_)
     refine ae (hK117 _ _ ?_)
     refine aw (aP (aB (aB (aP (aB av))))) (ar O (.cons (.tmp O) .nil) O) (fun w' hM' hK' => ?_)
     refine ⟨?_, hK'⟩
     have e : ∀ k : Nat, szN c.toNat = k → (Ending.returned (.int .i64 (k : Int)) = Ending.returned (.int .i64 (szN c.toNat : Int))) := fun k h => by rw [h]
     refine e _ ?_
     first | (simp at *; done) | (simp at *; unfold szN; (repeat' split) <;> omega)
    ·
     refine aC (aQ ?_)
     refine ae (hK114 _ _ ?_)
     refine aj (aa O O O (aL O O O O (by omega) (by omega)) ?_)
     refine aa O O O (af O O) (ai ?_)
     refine ae (bz ?_)
     refine ah fun K118 hK118 => aj (aa O O O (aT O O O) ?_)
     refine ai (ae ?_)
     refine hK118 _ _ (ah fun K119 hK119 => ?_)
     refine bk O (aC ?_)
     refine ae (hK119 _ _ ?_)
     refine ah fun K120 hK120 => aK (ah fun K121 hK121 => ?_)
     refine aj (aa O O O (af O O) ?_)
     refine aa O O O (bY (sz := 5) (i := 3) O O O Tryz.underlying174 (by kernel_rfl) (by kernel_rfl) (by first | decide | omega) (by first | decide | omega) O) ?_
     refine am O (aX [Seg.one (.int .u8 0) rfl, Seg.one (.int .u8 0) rfl, Seg.one (.int .u8 0) rfl, Seg.one (.int .i32 0) rfl, Seg.one (.int .i32 0) rfl] O O O (by kernel_rfl)) ?_
     intro b4 _
     try simp only [setN, putD, selM, nth, cw, cx]
     refine aa O O O (ak O O) (am O (by first | exact ap (k := 5) 0 _ O O O O O O (by kernel_rfl) O O | exact ap (k := 5) 1 _ O O O O O O (by kernel_rfl) O O | exact ap (k := 5) 2 _ O O O O O O (by kernel_rfl) O O | exact ap (k := 5) 3 _ O O O O O O (by kernel_rfl) O O) ?_)
     intro _ _
     try simp only [setN, putD, selM, nth, cw, cx]
     refine ai (ae ?_)
     refine hK121 _ _ (ah fun K122 hK122 => ?_)
     refine aj (aa O O O (af O O) ?_)
     refine aa O O O (au (k := 0) O O (by kernel_rfl) O) ?_
     refine aa O O O (by first | exact al 0 O O O O (by kernel_rfl) | exact al 1 O O O O (by kernel_rfl) | exact al 2 O O O O (by kernel_rfl) | exact al 3 O O O O (by kernel_rfl)) ?_
     refine aa O O O (bB O O O) (aa O O O (af O O) ?_)
     refine aR (d := 14) O (fun hg14 => ?_) (fun hg14 => ?_)
     ·
      refine aq O O O O O O O (af O O) (aq O O O O O O O (au (k := 1) O O (by kernel_rfl) O) ?_)
      refine aq O O O O O O O (by first | exact al 0 O O O O (by kernel_rfl) | exact al 1 O O O O (by kernel_rfl) | exact al 2 O O O O (by kernel_rfl) | exact al 3 O O O O (by kernel_rfl)) ?_
      refine aq O O O O O O O (bD O O O) (aa O O O (aF O O O) ?_)
      refine ai (ae ?_)
      refine hK122 _ _ (aH O (fun hc19 => ?_) (fun hc19 => ?_))
      ·
       refine ah fun K123 hK123 => aj (aa O O O (af O O) ?_)
       refine aa O O O (aL O O O O (by omega) (by omega)) ?_
       refine aa O O O (ak O O) (ai ?_)
       refine ae (hK123 _ _ ?_)
       refine aw (aP (aB (aB (aP (aB av))))) (ar O (.cons (.tmp O) .nil) O) (fun w' hM' hK' => ?_)
       refine ⟨?_, hK'⟩
       have e : ∀ k : Nat, szN c.toNat = k → (Ending.returned (.int .i64 (k : Int)) = Ending.returned (.int .i64 (szN c.toNat : Int))) := fun k h => by rw [h]
       refine e _ ?_
       first | (simp at *; done) | (simp at *; unfold szN; (repeat' split) <;> omega)
      ·
       refine aC (aQ ?_)
       refine ae (hK120 _ _ ?_)
       refine aj (aa O O O (aL O O O O (by omega) (by omega)) ?_)
       refine aa O O O (af O O) (ai ?_)
       refine ae (bz ?_)
       refine ah fun K124 hK124 => aj (aa O O O (aT O O O) ?_)
       refine ai (ae ?_)
       refine hK124 _ _ (ah fun K125 hK125 => ?_)
       refine bq O (aU ?_)
       refine aI (aI ?_)
       refine aV (ae ?_)
       refine hK2 _ _ (ah fun K126 hK126 => ?_)
       refine aj (aa O O O (ak O O) ?_)
       refine ai (ae ?_)
       refine hK126 _ _ (aw av (ar O (.cons (.tmp O) .nil) O) (fun w' hM' hK' => ?_))
       refine ⟨?_, hK'⟩
       have e : ∀ k : Nat, szN c.toNat = k → (Ending.returned (.int .i64 (k : Int)) = Ending.returned (.int .i64 (szN c.toNat : Int))) := fun k h => by rw [h]
       refine e _ ?_
       first | (simp at *; done) | (simp at *; unfold szN; (repeat' split) <;> omega)
     ·
      refine ag O O O O O O O (ag O O O O O O O ?_)
      refine ag O O O O O O O (ag O O O O O O O ?_)
      refine aa O O O (aE O O O) (ai ?_)
      refine ae (hK122 _ _ ?_)
      refine bq O (aC ?_)
      refine aQ (ae ?_)
      refine hK120 _ _ (aj ?_)
      refine aa O O O (aL O O O O (by omega) (by omega)) ?_
      refine aa O O O (af O O) (ai ?_)
      refine ae (bz ?_)
      refine ah fun K127 hK127 => aj (aa O O O (aT O O O) ?_)
      refine ai (ae ?_)
      refine hK127 _ _ (ah fun K128 hK128 => ?_)
      refine bq O (aU ?_)
      refine aI (aI ?_)
      refine aV (ae ?_)
      refine hK2 _ _ (ah fun K129 hK129 => ?_)
      refine aj (aa O O O (ak O O) ?_)
      refine ai (ae ?_)
      refine hK129 _ _ (aw av (ar O (.cons (.tmp O) .nil) O) (fun w' hM' hK' => ?_))
      refine ⟨?_, hK'⟩
      have e : ∀ k : Nat, szN c.toNat = k → (Ending.returned (.int .i64 (k : Int)) = Ending.returned (.int .i64 (szN c.toNat : Int))) := fun k h => by rw [h]
      refine e _ ?_
      first | (simp at *; done) | (simp at *; unfold szN; (repeat' split) <;> omega)
   ·
    refine ag O O O O O O O (ag O O O O O O O ?_)
    refine ag O O O O O O O (ag O O O O O O O ?_)
    refine aa O O O (aE O O O) (ai ?_)
    refine ae (hK116 _ _ ?_)
    refine bq O (aC ?_)
    refine aQ (ae ?_)
    refine hK114 _ _ (aj ?_)
    refine aa O O O (aL O O O O (by omega) (by omega)) ?_
    refine aa O O O (af O O) (ai ?_)
    refine ae (bz ?_)
    refine ah fun K130 hK130 => aj (aa O O O (aT O O O) ?_)
    refine ai (ae ?_)
    refine hK130 _ _ (ah fun K131 hK131 => ?_)
    refine bk O (aC ?_)
    refine ae (hK131 _ _ ?_)
    refine ah fun K132 hK132 => aK (ah fun K133 hK133 => ?_)
    refine aj (aa O O O (af O O) ?_)
    refine aa O O O (bY (sz := 5) (i := 3) O O O Tryz.underlying174 (by kernel_rfl) (by kernel_rfl) (by first | decide | omega) (by first | decide | omega) O) ?_
    refine am O (aX [Seg.one (.int .u8 0) rfl, Seg.one (.int .u8 0) rfl, Seg.one (.int .u8 0) rfl, Seg.one (.int .i32 0) rfl, Seg.one (.int .i32 0) rfl] O O O (by kernel_rfl)) ?_
    intro b4 _
    try simp only [setN, putD, selM, nth, cw, cx]
    refine aa O O O (ak O O) (am O (by first | exact ap (k := 5) 0 _ O O O O O O (by kernel_rfl) O O | exact ap (k := 5) 1 _ O O O O O O (by kernel_rfl) O O | exact ap (k := 5) 2 _ O O O O O O (by kernel_rfl) O O | exact ap (k := 5) 3 _ O O O O O O (by kernel_rfl) O O) ?_)
    intro _ _
    try simp only [setN, putD, selM, nth, cw, cx]
    refine ai (ae ?_)
    refine hK133 _ _ (ah fun K134 hK134 => ?_)
    refine aj (aa O O O (af O O) ?_)
    refine aa O O O (au (k := 0) O O (by kernel_rfl) O) ?_
    refine aa O O O (by first | exact al 0 O O O O (by kernel_rfl) | exact al 1 O O O O (by kernel_rfl) | exact al 2 O O O O (by kernel_rfl) | exact al 3 O O O O (by kernel_rfl)) ?_
    refine aa O O O (bB O O O) (aa O O O (af O O) ?_)
    refine aR (d := 14) O (fun hg14 => ?_) (fun hg14 => ?_)
    ·
     refine aq O O O O O O O (af O O) (aq O O O O O O O (au (k := 1) O O (by kernel_rfl) O) ?_)
     refine aq O O O O O O O (by first | exact al 0 O O O O (by kernel_rfl) | exact al 1 O O O O (by kernel_rfl) | exact al 2 O O O O (by kernel_rfl) | exact al 3 O O O O (by kernel_rfl)) ?_
     refine aq O O O O O O O (bD O O O) (aa O O O (aF O O O) ?_)
     refine ai (ae ?_)
     refine hK134 _ _ (aH O (fun hc19 => ?_) (fun hc19 => ?_))
     ·
      refine ah fun K135 hK135 => aj (aa O O O (af O O) ?_)
      refine aa O O O (aL O O O O (by omega) (by omega)) ?_
      refine aa O O O (ak O O) (ai ?_)
      refine ae (hK135 _ _ ?_)
      refine aw (aP (aB (aB (aP (aB av))))) (ar O (.cons (.tmp O) .nil) O) (fun w' hM' hK' => ?_)
      refine ⟨?_, hK'⟩
      have e : ∀ k : Nat, szN c.toNat = k → (Ending.returned (.int .i64 (k : Int)) = Ending.returned (.int .i64 (szN c.toNat : Int))) := fun k h => by rw [h]
      refine e _ ?_
      first | (simp at *; done) | (simp at *; unfold szN; (repeat' split) <;> omega)
     ·
      refine aC (aQ ?_)
      refine ae (hK132 _ _ ?_)
      refine aj (aa O O O (aL O O O O (by omega) (by omega)) ?_)
      refine aa O O O (af O O) (ai ?_)
      refine ae (bz ?_)
      refine ah fun K136 hK136 => aj (aa O O O (aT O O O) ?_)
      refine ai (ae ?_)
      refine hK136 _ _ (ah fun K137 hK137 => ?_)
      refine bq O (aU ?_)
      refine aI (aI ?_)
      refine aV (ae ?_)
      refine hK2 _ _ (ah fun K138 hK138 => ?_)
      refine aj (aa O O O (ak O O) ?_)
      refine ai (ae ?_)
      refine hK138 _ _ (aw av (ar O (.cons (.tmp O) .nil) O) (fun w' hM' hK' => ?_))
      refine ⟨?_, hK'⟩
      have e : ∀ k : Nat, szN c.toNat = k → (Ending.returned (.int .i64 (k : Int)) = Ending.returned (.int .i64 (szN c.toNat : Int))) := fun k h => by rw [h]
      refine e _ ?_
      first | (simp at *; done) | (simp at *; unfold szN; (repeat' split) <;> omega)
    ·
     refine ag O O O O O O O (ag O O O O O O O ?_)
     refine ag O O O O O O O (ag O O O O O O O ?_)
     refine aa O O O (aE O O O) (ai ?_)
     refine ae (hK134 _ _ ?_)
     refine bq O (aC ?_)
     refine aQ (ae ?_)
     refine hK132 _ _ (aj ?_)
     refine aa O O O (aL O O O O (by omega) (by omega)) ?_
     refine aa O O O (af O O) (ai ?_)
     refine ae (bz ?_)
     refine ah fun K139 hK139 => aj (aa O O O (aT O O O) ?_)
     refine ai (ae ?_)
     refine hK139 _ _ (ah fun K140 hK140 => ?_)
     refine bq O (aU ?_)
     refine aI (aI ?_)
     refine aV (ae ?_)
     refine hK2 _ _ (ah fun K141 hK141 => ?_)
     refine aj (aa O O O (ak O O) ?_)
     refine ai (ae ?_)
     refine hK141 _ _ (aw av (ar O (.cons (.tmp O) .nil) O) (fun w' hM' hK' => ?_))
     refine ⟨?_, hK'⟩
     have e : ∀ k : Nat, szN c.toNat = k → (Ending.returned (.int .i64 (k : Int)) = Ending.returned (.int .i64 (szN c.toNat : Int))) := fun k h => by rw [h]
     refine e _ ?_
     first | (simp at *; done) | (simp at *; unfold szN; (repeat' split) <;> omega)

def within (a b : Int) (r : Int) : Bool := decide (a ≤ r) && decide (r ≤ b) && (decide (r < 55296) || decide (57343 < r))
theorem within_c (a b c : UInt8) (p q r : Int) (w : World) : Calls Tryz.prog 127 [.agg (flat (clsg a b c p q)), .int .i32 r].toArray w fun e w' => e = .returned (.bool (within p q r)) ∧ Keeps none1 w w' := by
 refine aJ (n := 23) (W := SL.none1) (m := []) Tryz.func127 O Tryz.ntmps127 O (aO _ _ _) ?_
 simp only [SL.enum, Nat.reduceAdd]
 refine ah fun K1 hK1 => aj (am O (bh _ O O O O O) ?_)
 intro b2 _
 try simp only [setN, putD, selM, nth, cw, cx]
 refine aa O O O (ak O O) (ai ?_)
 refine ae (hK1 _ _ ?_)
 refine ah fun K2 hK2 => aj (aa O O O (af O O) ?_)
 refine aa O O O (au (k := 3) O O (by kernel_rfl) O) ?_
 refine aa O O O (by first | exact al 0 O O O O (by kernel_rfl)) ?_
 refine aa O O O (bB O O O) (aa O O O (af O O) ?_)
 refine aR (d := 9) O (fun hg9 => ?_) (fun hg9 => ?_)
 ·
  refine aq O O O O O O O (af O O) (aq O O O O O O O (au (k := 4) O O (by kernel_rfl) O) ?_)
  refine aq O O O O O O O (by first | exact al 0 O O O O (by kernel_rfl)) ?_
  refine aq O O O O O O O (bD O O O) (aa O O O (aF O O O) ?_)
  refine aa O O O (af O O) (aR (d := 15) O (fun hg15 => ?_) (fun hg15 => ?_))
  ·
   refine aq O O O O O O O (af O O) (aq O O O O O O O (aT O O O) ?_)
   refine aq O O O O O O O (af O O) (aR (d := 18) O (fun hg18 => ?_) (fun hg18 => ?_))
   ·
    refine ag O O O O O O O (ag O O O O O O O ?_)
    refine aq O O O O O O O (aF O O O) (aa O O O (aF O O O) ?_)
    refine aa O O O (ak O O) (ai ?_)
    refine ae (hK2 _ _ ?_)
    refine aw av (ar O (.cons (.tmp O) .nil) O) (fun w' hM' hK' => ?_)
    exact ⟨bj (by first | (simp [within] at *; done) | (simp [within] at *; omega) | (simp [within] <;> omega) | (simp_all [within]; done)), hK'⟩
   ·
    refine aq O O O O O O O (af O O) (aq O O O O O O O (bH O O O) ?_)
    refine aq O O O O O O O (aE O O O) (aa O O O (aF O O O) ?_)
    refine aa O O O (ak O O) (ai ?_)
    refine ae (hK2 _ _ ?_)
    refine aw av (ar O (.cons (.tmp O) .nil) O) (fun w' hM' hK' => ?_)
    exact ⟨bj (by first | (simp [within] at *; done) | (simp [within] at *; omega) | (simp [within] <;> omega) | (simp_all [within]; done)), hK'⟩
  ·
   refine ag O O O O O O O (ag O O O O O O O ?_)
   refine ag O O O O O O O (bO O O O O O O ?_)
   refine bO O O O O O O (ag O O O O O O O ?_)
   refine aa O O O (aE O O O) (aa O O O (ak O O) ?_)
   refine ai (ae ?_)
   refine hK2 _ _ (aw av (ar O (.cons (.tmp O) .nil) O) (fun w' hM' hK' => ?_))
   exact ⟨bj (by first | (simp [within] at *; done) | (simp [within] at *; omega) | (simp [within] <;> omega) | (simp_all [within]; done)), hK'⟩
 ·
  refine ag O O O O O O O (ag O O O O O O O ?_)
  refine ag O O O O O O O (ag O O O O O O O ?_)
  refine aa O O O (aE O O O) (aa O O O (af O O) ?_)
  refine ag O O O O O O O (ag O O O O O O O ?_)
  refine ag O O O O O O O (bO O O O O O O ?_)
  refine bO O O O O O O (ag O O O O O O O ?_)
  refine aa O O O (aE O O O) (aa O O O (ak O O) ?_)
  refine ai (ae ?_)
  refine hK2 _ _ (aw av (ar O (.cons (.tmp O) .nil) O) (fun w' hM' hK' => ?_))
  exact ⟨bj (by first | (simp [within] at *; done) | (simp [within] at *; omega) | (simp [within] <;> omega) | (simp_all [within]; done)), hK'⟩

def ctl (r : Int) : Bool := decide (r ≤ 31) || (decide (127 ≤ r) && decide (r ≤ 159)) || decide (r = 8232) || decide (r = 8233)
theorem ucontrol_c (r : Int) (w : World) : Calls Tryz.prog 83 [.int .i32 r].toArray w fun e w' => e = .returned (.bool (ctl r)) ∧ Keeps none1 w w' := by
 refine aJ (n := 20) (W := SL.none1) (m := []) Tryz.func83 O Tryz.ntmps83 O (aO _ _ _) ?_
 simp only [SL.enum, Nat.reduceAdd]
 refine ah fun K1 hK1 => aj (aa O O O (ak O O) ?_)
 refine ai (ae ?_)
 refine hK1 _ _ (ah fun K2 hK2 => ?_)
 refine aK (ah fun K3 hK3 => ?_)
 refine aK (aK ?_)
 refine aK (ah fun K4 hK4 => ?_)
 refine ah fun K5 hK5 => ah fun K6 hK6 => aj (aa O O O (af O O) ?_)
 refine aa O O O (bD O O O) (aa O O O (ak O O) ?_)
 refine ai (ae ?_)
 refine hK6 _ _ (aH O (fun hc3 => ?_) (fun hc3 => ?_))
 ·
  refine aU (aI ?_)
  refine aI (aV ?_)
  refine aQ (aQ ?_)
  refine ae (hK3 _ _ ?_)
  refine ah fun K7 hK7 => ah fun K8 hK8 => aj (aa O O O (ak O O) ?_)
  refine ai (ae ?_)
  refine hK8 _ _ (aw (aB (aP (aB av))) (ar O (.cons (.tmp O) .nil) O) (fun w' hM' hK' => ?_))
  exact ⟨bj (by first | (simp [ctl] at *; done) | (simp [ctl] at *; omega) | (simp [ctl] <;> omega) | (simp_all [ctl]; done)), hK'⟩
 ·
  refine aC (ae ?_)
  refine hK5 _ _ (ah fun K9 hK9 => ?_)
  refine ah fun K10 hK10 => aj (aa O O O (af O O) ?_)
  refine aa O O O (bB O O O) (aa O O O (af O O) ?_)
  refine aR (d := 9) O (fun hg9 => ?_) (fun hg9 => ?_)
  ·
   refine aq O O O O O O O (af O O) (aq O O O O O O O (bD O O O) ?_)
   refine aa O O O (aF O O O) (aa O O O (ak O O) ?_)
   refine ai (ae ?_)
   refine hK10 _ _ (aH O (fun hc6 => ?_) (fun hc6 => ?_))
   ·
    refine aU (aI ?_)
    refine aI (cm O ?_)
    refine aV (aQ ?_)
    refine ae (hK3 _ _ ?_)
    refine ah fun K11 hK11 => ah fun K12 hK12 => aj (aa O O O (ak O O) ?_)
    refine ai (ae ?_)
    refine hK12 _ _ (aw (aB (aP (aB av))) (ar O (.cons (.tmp O) .nil) O) (fun w' hM' hK' => ?_))
    exact ⟨bj (by first | (simp [ctl] at *; done) | (simp [ctl] at *; omega) | (simp [ctl] <;> omega) | (simp_all [ctl]; done)), hK'⟩
   ·
    refine aC (ae ?_)
    refine hK9 _ _ (ah fun K13 hK13 => ?_)
    refine aj (aa O O O (af O O) ?_)
    refine aa O O O (bt O O O) (aa O O O (af O O) ?_)
    refine aR (d := 16) O (fun hg16 => ?_) (fun hg16 => ?_)
    ·
     refine ag O O O O O O O (ag O O O O O O O ?_)
     refine aa O O O (aF O O O) (aa O O O (ak O O) ?_)
     refine ai (ae ?_)
     refine hK13 _ _ (bk O ?_)
     refine aU (aI ?_)
     refine cm O (cm O ?_)
     refine aV (ae ?_)
     refine hK3 _ _ (ah fun K14 hK14 => ?_)
     refine ah fun K15 hK15 => aj (aa O O O (ak O O) ?_)
     refine ai (ae ?_)
     refine hK15 _ _ (aw (aB (aP (aB av))) (ar O (.cons (.tmp O) .nil) O) (fun w' hM' hK' => ?_))
     exact ⟨bj (by first | (simp [ctl] at *; done) | (simp [ctl] at *; omega) | (simp [ctl] <;> omega) | (simp_all [ctl]; done)), hK'⟩
    ·
     refine aq O O O O O O O (af O O) (aq O O O O O O O (bt O O O) ?_)
     refine aa O O O (aE O O O) (aa O O O (ak O O) ?_)
     refine ai (ae ?_)
     refine hK13 _ _ (aH O (fun hc13 => ?_) (fun hc13 => ?_))
     ·
      refine aU (aI ?_)
      refine cm O (cm O ?_)
      refine aV (ae ?_)
      refine hK3 _ _ (ah fun K16 hK16 => ?_)
      refine ah fun K17 hK17 => aj (aa O O O (ak O O) ?_)
      refine ai (ae ?_)
      refine hK17 _ _ (aw (aB (aP (aB av))) (ar O (.cons (.tmp O) .nil) O) (fun w' hM' hK' => ?_))
      exact ⟨bj (by first | (simp [ctl] at *; done) | (simp [ctl] at *; omega) | (simp [ctl] <;> omega) | (simp_all [ctl]; done)), hK'⟩
     ·
      refine aC (ae ?_)
      refine hK4 _ _ (aU ?_)
      refine cm O (cm O ?_)
      refine cm O (aI ?_)
      refine aV (ae ?_)
      refine hK2 _ _ (ah fun K18 hK18 => ?_)
      refine aj (aa O O O (ak O O) ?_)
      refine ai (ae ?_)
      refine hK18 _ _ (aw av (ar O (.cons (.tmp O) .nil) O) (fun w' hM' hK' => ?_))
      exact ⟨bj (by first | (simp [ctl] at *; done) | (simp [ctl] at *; omega) | (simp [ctl] <;> omega) | (simp_all [ctl]; done)), hK'⟩
  ·
   refine ag O O O O O O O (ag O O O O O O O ?_)
   refine aa O O O (aE O O O) (aa O O O (ak O O) ?_)
   refine ai (ae ?_)
   refine hK10 _ _ (bq O ?_)
   refine aC (ae ?_)
   refine hK9 _ _ (ah fun K19 hK19 => ?_)
   refine aj (aa O O O (af O O) ?_)
   refine aa O O O (bt O O O) (aa O O O (af O O) ?_)
   refine aR (d := 16) O (fun hg16 => ?_) (fun hg16 => ?_)
   ·
    refine ag O O O O O O O (ag O O O O O O O ?_)
    refine aa O O O (aF O O O) (aa O O O (ak O O) ?_)
    refine ai (ae ?_)
    refine hK19 _ _ (bk O ?_)
    refine aU (aI ?_)
    refine cm O (cm O ?_)
    refine aV (ae ?_)
    refine hK3 _ _ (ah fun K20 hK20 => ?_)
    refine ah fun K21 hK21 => aj (aa O O O (ak O O) ?_)
    refine ai (ae ?_)
    refine hK21 _ _ (aw (aB (aP (aB av))) (ar O (.cons (.tmp O) .nil) O) (fun w' hM' hK' => ?_))
    exact ⟨bj (by first | (simp [ctl] at *; done) | (simp [ctl] at *; omega) | (simp [ctl] <;> omega) | (simp_all [ctl]; done)), hK'⟩
   ·
    refine aq O O O O O O O (af O O) (aq O O O O O O O (bt O O O) ?_)
    refine aa O O O (aE O O O) (aa O O O (ak O O) ?_)
    refine ai (ae ?_)
    refine hK19 _ _ (aH O (fun hc13 => ?_) (fun hc13 => ?_))
    ·
     refine aU (aI ?_)
     refine cm O (cm O ?_)
     refine aV (ae ?_)
     refine hK3 _ _ (ah fun K22 hK22 => ?_)
     refine ah fun K23 hK23 => aj (aa O O O (ak O O) ?_)
     refine ai (ae ?_)
     refine hK23 _ _ (aw (aB (aP (aB av))) (ar O (.cons (.tmp O) .nil) O) (fun w' hM' hK' => ?_))
     exact ⟨bj (by first | (simp [ctl] at *; done) | (simp [ctl] at *; omega) | (simp [ctl] <;> omega) | (simp_all [ctl]; done)), hK'⟩
    ·
     refine aC (ae ?_)
     refine hK4 _ _ (aU ?_)
     refine cm O (cm O ?_)
     refine cm O (aI ?_)
     refine aV (ae ?_)
     refine hK2 _ _ (ah fun K24 hK24 => ?_)
     refine aj (aa O O O (ak O O) ?_)
     refine ai (ae ?_)
     refine hK24 _ _ (aw av (ar O (.cons (.tmp O) .nil) O) (fun w' hM' hK' => ?_))
     exact ⟨bj (by first | (simp [ctl] at *; done) | (simp [ctl] at *; omega) | (simp [ctl] <;> omega) | (simp_all [ctl]; done)), hK'⟩
end Go.Proofs.YthfhhkanpnemcaaGreatDoor
namespace Go.Proofs.YthfhhkanpnemcaaGreatDoor
open Go.SL Go.RowKit IntWalk
set_option linter.unusedVariables false
set_option maxRecDepth 100000
set_option linter.unusedSimpArgs false
set_option maxHeartbeats 400000

/-- the mask of a first byte -/
def msk (n : Nat) : UInt8 := if n = 1 then 127 else if n = 2 then 31 else if n = 3 then 15 else 7
def mnR (n : Nat) : Int := if n = 1 then 0 else if n = 2 then 128 else if n = 3 then 2048 else 65536
def mxR (n : Nat) : Int := if n = 1 then 127 else if n = 2 then 2047 else if n = 3 then 65535 else 1114111
/-- the number that the first byte and i - 1 further ones spell -/
def rv (n : Nat) (s : List UInt8) : Nat → Nat
 | 0 => 0
 | 1 => (s.getD 0 0 &&& msk n).toNat
 | i + 2 => rv n s (i + 1) * 64 + (s.getD (i + 1) 0 &&& 63).toNat
/-- the bytes 1 .. i - 1 are further ones -/
def conts (s : List UInt8) (i : Nat) : Bool := (List.range i).all fun j => decide (j = 0) || decide ((s.getD j 0).toNat / 64 = 2)
/-- a rune, and its length -/
def firstM (s : List UInt8) : Option (Int × Nat) :=
 let n := szN (s.getD 0 0).toNat
 if n = 0 ∨ s.length < n then none
 else if conts s n && within (mnR n) (mxR n) (rv n s n) then some ((rv n s n : Int), n) else none

theorem clsAt (n : Nat) (h0 : 1 ≤ n) (h4 : n ≤ 4) : ∃ lo hi : UInt8, cut CLS ((n - 1) * 5) 5 = some (clsg lo hi (msk n) (mnR n) (mxR n)) := by
 rcases (by omega : n = 1 ∨ n = 2 ∨ n = 3 ∨ n = 4) with rfl | rfl | rfl | rfl
 ·
  exact ⟨0, 127, rfl⟩
 ·
  exact ⟨194, 223, rfl⟩
 ·
  exact ⟨224, 239, rfl⟩
 ·
  exact ⟨240, 244, rfl⟩

def bnd : Nat → Int
 | 0 => 0
 | 1 => 128
 | 2 => 8192
 | 3 => 524288
 | _ => 33554432

theorem and_lt (a b : UInt8) (k : Nat) (hb : b.toNat < k) : (a &&& b).toNat < k := by
 rw [UInt8.toNat_and]; exact Nat.lt_of_le_of_lt Nat.and_le_right hb
theorem msk_lt (n : Nat) : (msk n).toNat < 128 := by unfold msk; (repeat' split) <;> decide

theorem or_low (r m : Int) (h0 : 0 ≤ r) (h1 : r < 33554432) (h2 : 0 ≤ m) (h3 : m < 64) : IntKind.i32.wrap (BitVec.ofInt IntKind.i32.bits (64 * r) ||| BitVec.ofInt IntKind.i32.bits m).toNat = 64 * r + m := by
 obtain ⟨a, rfl⟩ : ∃ a : Nat, r = a := ⟨r.toNat, by omega⟩
 obtain ⟨b, rfl⟩ : ∃ b : Nat, m = b := ⟨m.toNat, by omega⟩
 have e : (BitVec.ofInt 32 (64 * (a : Int)) ||| BitVec.ofInt 32 (b : Int)).toNat = 64 * a + b := by
  rw [BitVec.toNat_or, BitVec.toNat_ofInt, BitVec.toNat_ofInt]
  have e1 : ((64 * (a : Int)) % ((2 ^ 32 : Nat) : Int)).toNat = 2 ^ 6 * a := by omega
  have e2 : ((b : Int) % ((2 ^ 32 : Nat) : Int)).toNat = b := by omega
  rw [e1, e2, ← Nat.two_pow_add_eq_or_of_lt (by omega) a]
 show IntKind.i32.wrap ((BitVec.ofInt 32 (64 * (a : Int)) ||| BitVec.ofInt 32 (b : Int)).toNat : Int) = _
 rw [e, IntKind.wrap_i32]
 omega

theorem shl6 (r : Int) (h0 : 0 ≤ r) (h1 : r < 33554432) : IntKind.i32.wrap (r * 2 ^ (min (Int.toNat 6) IntKind.i32.bits)) = 64 * r := by
 have e : min (Int.toNat 6) IntKind.i32.bits = 6 := by decide
 rw [e, IntKind.wrap_i32]; omega

theorem shr6 (c : UInt8) : ((c.toNat : Int)).fdiv (2 ^ (min (Int.toNat 6) IntKind.u8.bits)) = ((c.toNat / 64 : Nat) : Int) := by
 have e : min (Int.toNat 6) IntKind.u8.bits = 6 := by decide
 rw [e, Int.fdiv_eq_ediv_of_nonneg _ (by decide)]
 rfl

theorem conts_succ (s : List UInt8) (i : Nat) (h : 1 ≤ i) : conts s (i + 1) = (conts s i && decide ((s.getD i 0).toNat / 64 = 2)) := by
 simp [conts, List.range_succ, Nat.ne_of_gt h, show i ≠ 0 by omega]

theorem conts_bad (s : List UInt8) (i n : Nat) (h : 1 ≤ i) (hn : i < n) (hb : ¬ (s.getD i 0).toNat / 64 = 2) : conts s n = false := by
 unfold conts
 rw [List.all_eq_false]
 exact ⟨i, List.mem_range.2 hn, by simp [-List.getD_eq_getElem?_getD, hb, show i ≠ 0 by omega]⟩
theorem rv_succ (n : Nat) (s : List UInt8) (i : Nat) (h : 1 ≤ i) : rv n s (i + 1) = rv n s i * 64 + (s.getD i 0 &&& 63).toNat := by
 obtain ⟨k, rfl⟩ : ∃ k, i = k + 1 := ⟨i - 1, by omega⟩
 rfl

theorem begins_c (s : List UInt8) (hs : s ≠ []) (hl : s.length ≤ 1000000) (w : World) : Calls Tryz.prog 136 [str s].toArray w fun e w' => ∃ b : Bool, (s.length = szN (s.getD 0 0).toNat → b = (conts s s.length && within (mnR s.length) (mxR s.length) (rv s.length s s.length))) ∧ e = .returned (.tuple #[.int .i64 (szN (s.getD 0 0).toNat), .bool b]) ∧ Post w (blocksOf []) [] w' := by
 have hl0 : 0 < s.length := by cases s <;> simp at *
 have h0 : s[(0 : Int).toNat]? = some (s.getD 0 0) := by simp [hl0]
 have hn4 := szN_le (s.getD 0 0).toNat
 generalize hn : szN (s.getD 0 0).toNat = n at *
 refine aJ (n := 87) (W := (blocksOf [])) (m := []) Tryz.func136 O Tryz.ntmps136 O (aO _ _ _) ?_
 simp only [SL.enum, Nat.reduceAdd]
 refine ah fun K1 hK1 => aj (aa O O O (ak O O) ?_)
 refine aa O O O (ak O O) (ai ?_)
 refine ae (hK1 _ _ ?_)
 refine ah fun K2 hK2 => aj (aa O O O (af O O) ?_)
 refine aa O O O (bQ O O O Tryz.underlying9 (by omega) h0) ?_
 refine am O (aN O O (by kernel_rfl) O O (fun w hM hK => sizeOf_c _ w)) ?_
 intro _ _
 try simp only [setN, putD, selM, nth, cw, cx]
 rw [hn]
 refine aa O O O (ak O O) (ai ?_)
 refine ae (hK2 _ _ ?_)
 refine ah fun K3 hK3 => ah fun K4 hK4 => aj (aa O O O (af O O) ?_)
 refine aa O O O (bt O O O) (aa O O O (af O O) ?_)
 refine aR (d := 14) O (fun hg14 => ?_) (fun hg14 => ?_)
 ·
  have hn0 : n = 0 := by simp at hg14; omega
  refine ag O O O O O O O (ag O O O O O O O ?_)
  refine ag O O O O O O O (ag O O O O O O O ?_)
  refine aa O O O (aF O O O) (ai ?_)
  refine ae (hK4 _ _ ?_)
  refine bk O (ah fun K5 hK5 => ?_)
  refine aj (aa O O O (af O O) ?_)
  refine aa O O O (ak O O) (aa O O O (ak O O) ?_)
  refine ai (ae ?_)
  refine hK5 _ _ (aw (aB av) (ar O (.cons (.tmp O) (.cons (.tmp O) .nil)) O) (fun w' hM' hK' => ?_))
  exact ⟨false, fun h => absurd h (by omega), rfl, hK', hM'.sel [] rfl⟩
 ·
  have hn0 : 1 ≤ n := by simp at hg14; omega
  refine aq O O O O O O O (af O O) (aq O O O O O O O (bf O O O Tryz.underlying9) ?_)
  refine aq O O O O O O O (af O O) (aq O O O O O O O (bH O O O) ?_)
  refine aa O O O (aE O O O) (ai ?_)
  refine ae (hK4 _ _ ?_)
  refine aH O (fun hc19 => ?_) (fun hc19 => ?_)
  ·
   have hgt : n < s.length := by simp at hc19; omega
   refine ah fun K6 hK6 => aj (aa O O O (af O O) ?_)
   refine aa O O O (ak O O) (aa O O O (ak O O) ?_)
   refine ai (ae ?_)
   refine hK6 _ _ (aw (aB av) (ar O (.cons (.tmp O) (.cons (.tmp O) .nil)) O) (fun w' hM' hK' => ?_))
   exact ⟨false, fun h => absurd h (by omega), rfl, hK', hM'.sel [] rfl⟩
  ·
   have hle : s.length ≤ n := by simp at hc19; omega
   obtain ⟨clo, chi, hcl⟩ := clsAt n hn0 hn4
   refine aC (ae ?_)
   refine hK3 _ _ (ah fun K7 hK7 => ?_)
   refine aj (am O (aN O O (by kernel_rfl) O O (fun w hM hK => classes_c w)) ?_)
   intro _ _
   try simp only [setN, putD, selM, nth, cw, cx]
   refine aa O O O (af O O) (aa O O O (bU O O O O (by omega) (by omega)) ?_)
   refine aa O O O (bY (sz := 5) O O O Tryz.underlying174 (by kernel_rfl) (by kernel_rfl) (by omega) (by omega) (by rw [show Int.toNat ((n : Int) - 1) = n - 1 by omega]; exact hcl)) ?_
   refine am O (aX [Seg.one (.int .u8 0) rfl, Seg.one (.int .u8 0) rfl, Seg.one (.int .u8 0) rfl, Seg.one (.int .i32 0) rfl, Seg.one (.int .i32 0) rfl] O O O (by kernel_rfl)) ?_
   intro b5 _
   try simp only [setN, putD, selM, nth, cw, cx]
   refine am O (by first | exact ap (k := 5) 0 _ O O O O O O (by kernel_rfl) O O) ?_
   intro _ _
   try simp only [setN, putD, selM, nth, cw, cx]
   refine ai (ae ?_)
   refine hK7 _ _ (ah fun K8 hK8 => ?_)
   refine bX 6 mixed (by kernel_rfl) O O (fun wd5 => ?_)
   refine aD O O O (af O O) (aD O O O (bQ O O O Tryz.underlying9 (by omega) h0) ?_)
   refine aD O O O (au (k := 2) O O (by kernel_rfl) O) ?_
   refine aD O O O (by first | exact al 0 O O O O (by kernel_rfl)) ?_
   refine aD O O O (SL.Pure.andU8 _ _ O O O) (aD O O O (SL.Pure.conv8R O O (by kernel_rfl) Tryz.underlying21) ?_)
   refine bV (aa O O O (ak O O) ?_)
   refine ai (ae ?_)
   refine hK8 _ _ (ah fun K9 hK9 => ?_)
   refine aj (aa O O O (af O O) ?_)
   refine aa O O O (ak O O) (ai ?_)
   refine ae (hK9 _ _ ?_)
   refine ah fun K10 hK10 => ah fun K11 hK11 => aj (aa O O O (ak O O) ?_)
   refine ai (ae ?_)
   refine hK11 _ _ (aK ?_)
   refine bu (X := (Nat × Int × Int)) (φ := fun X => 1 ≤ X.1 ∧ X.1 ≤ n ∧ 0 ≤ X.2.1 ∧ X.2.1 < bnd X.1 ∧ 0 ≤ X.2.2 ∧ X.2.2 < bnd X.1 ∧ (s.length = n → X.2.1 = rv n s X.1 ∧ X.2.2 = rv n s X.1 ∧ conts s X.1 = true)) (L := fun X => [(0, str s), (4, .int .i64 n), (5, .pointer (some ⟨b5, 0, none⟩)), (6, .int .i32 X.2.1), (7, .int .i32 X.2.2), (8, .int .i64 X.1)]) (M := fun X => [.blk b5 (.cells (flat (clsg clo chi (msk n) (mnR n) (mxR n))) 173 (0, 0))]) (μ := fun X => n - X.1) ?_ ?_
   ·
    exact fun _ _ st => ⟨(1, ((s.getD 0 0 &&& msk n).toNat : Int), ((s.getD 0 0 &&& msk n).toNat : Int)), ⟨Nat.le_refl _, hn0, Int.natCast_nonneg _, by have := and_lt (s.getD 0 0) (msk n) 128 (msk_lt n); simp only [bnd]; omega, Int.natCast_nonneg _, by have := and_lt (s.getD 0 0) (msk n) 128 (msk_lt n); simp only [bnd]; omega, fun _ => ⟨rfl, rfl, by simp [conts]⟩⟩, st.to [0] ⟨rfl, rfl, rfl, rfl, rfl, rfl, trivial⟩ O rfl⟩
   ·
    intro ⟨i, lo, hi⟩ ⟨hi1, hi2, hlo, hlo2, hhi, hhi2, hrv⟩
    try dsimp only
    dsimp only at hi1 hi2 hlo hlo2 hhi hhi2 hrv
    refine ah fun K12 hK12 => ah fun K13 hK13 => aj (aa O O O (af O O) ?_)
    refine aa O O O (af O O) (aa O O O (aT O O O) ?_)
    refine ai (ae ?_)
    refine hK13 _ _ (aH O (fun hc34 => ?_) (fun hc34 => ?_))
    ·
     have hlt : i < n := by simp at hc34; omega
     have hb1 : bnd i ≤ 524288 := by
      rcases (by omega : i = 1 ∨ i = 2 ∨ i = 3) with rfl | rfl | rfl <;> decide
     have hb2 : bnd (i + 1) = 64 * bnd i := by
      rcases (by omega : i = 1 ∨ i = 2 ∨ i = 3) with rfl | rfl | rfl <;> decide
     refine aC (ae ?_)
     refine hK12 _ _ (ah fun K14 hK14 => ?_)
     refine aK (ah fun K15 hK15 => ?_)
     refine ah fun K16 hK16 => aj (aa O O O (af O O) ?_)
     refine aa O O O (af O O) (aa O O O (bf O O O Tryz.underlying9) ?_)
     refine aa O O O (bB O O O) (ai ?_)
     refine ae (hK16 _ _ ?_)
     refine aH O (fun hc40 => ?_) (fun hc40 => ?_)
     ·
      have hgl : s.length ≤ i := by simp at hc40; omega
      refine ah fun K17 hK17 => aj (aa O O O (af O O) ?_)
      refine aa O O O (cv O O O (by decide) (shl6 lo hlo (by omega))) ?_
      refine aa O O O (af O O) (aa O O O (cv O O O (by decide) (shl6 hi hhi (by omega))) ?_)
      refine aa O O O (SL.Pure.or O O O (or_low hi 63 hhi (by omega) (by decide) (by decide))) ?_
      refine aa O O O (ak O O) (aa O O O (ak O O) ?_)
      refine ai (ae ?_)
      refine hK17 _ _ (aU ?_)
      refine aI (aV ?_)
      refine ae (hK14 _ _ ?_)
      refine aj (aa O O O (af O O) ?_)
      refine aa O O O (aL O O O O (by omega) (by omega)) ?_
      refine aa O O O (ak O O) (ai ?_)
      refine ae ?_
      exact bd (i + 1, 64 * lo, 64 * hi + 63) [0] ⟨by omega, by omega, by dsimp only; omega, by dsimp only; omega, by dsimp only; omega, by dsimp only; omega, fun h => absurd h (by omega)⟩ (show n - (i + 1) < n - i by omega) ⟨rfl, rfl, rfl, rfl, rfl, rfl, trivial⟩ O rfl
     ·
      have hil : i < s.length := by simp at hc40; omega
      have hsi : s[((i : Nat) : Int).toNat]? = some (s.getD i 0) := by simp [hil]
      have h63 := and_lt (s.getD i 0) 63 64 (by decide)
      refine aC (ae ?_)
      refine hK15 _ _ (ah fun K18 hK18 => ?_)
      refine ah fun K19 hK19 => aj (aa O O O (af O O) ?_)
      refine aa O O O (af O O) (aa O O O (bQ O O O Tryz.underlying9 (by omega) hsi) ?_)
      refine aa O O O (cu O O O (by decide) (shr6 _)) ?_
      refine aa O O O (bl O O O) (ai ?_)
      refine ae (hK19 _ _ ?_)
      refine aH O (fun hc50 => ?_) (fun hc50 => ?_)
      ·
       have hbad : ¬ (s.getD i 0).toNat / 64 = 2 := by simp [-List.getD_eq_getElem?_getD] at hc50; omega
       refine ah fun K20 hK20 => aj (aa O O O (af O O) ?_)
       refine aa O O O (ak O O) (aa O O O (ak O O) ?_)
       refine ai (ae ?_)
       refine hK20 _ _ (aw (aB (aP (aB (aB (aP (aB av)))))) (ar O (.cons (.tmp O) (.cons (.tmp O) .nil)) O) (fun w' hM' hK' => ?_))
       exact ⟨false, fun h => by rw [h, conts_bad s i n hi1 hlt hbad]; rfl, rfl, hK', hM'.sel [] rfl⟩
      ·
       have hgood : (s.getD i 0).toNat / 64 = 2 := by simp [-List.getD_eq_getElem?_getD] at hc50; omega
       refine aC (ae ?_)
       refine hK18 _ _ (bX 17 mixed (by kernel_rfl) O O (fun wd14 => ?_))
       refine aD O O O (af O O) (aD O O O (cv O O O (by decide) (shl6 lo hlo (by omega))) ?_)
       refine aD O O O (af O O) (aD O O O (af O O) ?_)
       refine aD O O O (bQ O O O Tryz.underlying9 (by omega) hsi) ?_
       refine aD O O O (SL.Pure.andU8 _ 63 O O O) (aD O O O (SL.Pure.conv8R O O (by kernel_rfl) Tryz.underlying21) ?_)
       refine aD O O O (SL.Pure.or O O O (or_low lo _ hlo (by omega) (Int.natCast_nonneg _) (by omega))) ?_
       refine aD O O O (af O O) (aD O O O (cv O O O (by decide) (shl6 hi hhi (by omega))) ?_)
       refine aD O O O (af O O) (aD O O O (af O O) ?_)
       refine aD O O O (bQ O O O Tryz.underlying9 (by omega) hsi) ?_
       refine aD O O O (SL.Pure.andU8 _ 63 O O O) (aD O O O (SL.Pure.conv8R O O (by kernel_rfl) Tryz.underlying21) ?_)
       refine aD O O O (SL.Pure.or O O O (or_low hi _ hhi (by omega) (Int.natCast_nonneg _) (by omega))) ?_
       refine aD O O O (ak O O) (bV ?_)
       refine aa O O O (ak O O) (ai ?_)
       refine aQ (ae ?_)
       refine hK14 _ _ (aj ?_)
       refine aa O O O (af O O) (aa O O O (aL O O O O (by omega) (by omega)) ?_)
       refine aa O O O (ak O O) (ai ?_)
       refine ae ?_
       exact bd (i + 1, 64 * lo + ((s.getD i 0 &&& 63).toNat : Int), 64 * hi + ((s.getD i 0 &&& 63).toNat : Int)) [0] ⟨by omega, by omega, by dsimp only; omega, by dsimp only; omega, by dsimp only; omega, by dsimp only; omega, fun h => by obtain ⟨e1, e2, e3⟩ := hrv h; dsimp only; rw [conts_succ s i hi1, e3, rv_succ n s i hi1]; simp [-List.getD_eq_getElem?_getD, hgood]; omega⟩ (show n - (i + 1) < n - i by omega) ⟨rfl, rfl, rfl, rfl, rfl, rfl, trivial⟩ O rfl
    ·
     have hin : i = n := by simp at hc34; omega
     subst hin
     refine aU (aI ?_)
     refine aI (aV ?_)
     refine ae (hK10 _ _ ?_)
     refine ah fun K21 hK21 => bX 9 mixed (by kernel_rfl) O O (fun wd15 => ?_)
     refine aD O O O (af O O) (aD O O O (au (k := 3) O O (by kernel_rfl) O) ?_)
     refine aD O O O (by first | exact al 0 O O O O (by kernel_rfl)) ?_
     refine aD O O O (SL.Pure.max2 O O O) (aD O O O (af O O) ?_)
     refine aD O O O (au (k := 4) O O (by kernel_rfl) O) ?_
     refine aD O O O (by first | exact al 0 O O O O (by kernel_rfl)) ?_
     refine aD O O O (SL.Pure.min2 O O O) (aD O O O (ak O O) ?_)
     refine bV (aa O O O (ak O O) ?_)
     refine ai (ae ?_)
     refine hK21 _ _ (ah fun K22 hK22 => ?_)
     refine ah fun K23 hK23 => aj (aa O O O (af O O) ?_)
     refine aa O O O (bB O O O) (aa O O O (af O O) ?_)
     refine aR (d := 78) O (fun hg78 => ?_) (fun hg78 => ?_)
     ·
      refine aq O O O O O O O (af O O) (aq O O O O O O O (bD O O O) ?_)
      refine aa O O O (aF O O O) (ai ?_)
      refine ae (hK23 _ _ ?_)
      refine aH O (fun hc81 => ?_) (fun hc81 => ?_)
      ·
       have hsur : 55296 ≤ max lo (mnR i) ∧ min hi (mxR i) ≤ 57343 := by simp at hc81 hg78; omega
       refine ah fun K24 hK24 => aj (aa O O O (af O O) ?_)
       refine aa O O O (ak O O) (aa O O O (ak O O) ?_)
       refine ai (ae ?_)
       refine hK24 _ _ (aw (aB av) (ar O (.cons (.tmp O) (.cons (.tmp O) .nil)) O) (fun w' hM' hK' => ?_))
       exact ⟨false, fun h => by obtain ⟨e1, e2, e3⟩ := hrv h; rw [h, e3]; subst e1; subst e2; symm; simp [within]; omega, rfl, hK', hM'.sel [] rfl⟩
      ·
       refine aC (ae ?_)
       refine hK22 _ _ (ah fun K25 hK25 => ?_)
       refine aj (aa O O O (af O O) ?_)
       refine aa O O O (af O O) (aa O O O (af O O) ?_)
       refine aa O O O (bD O O O) (aa O O O (ak O O) ?_)
       refine aa O O O (ak O O) (ai ?_)
       refine ae (hK25 _ _ ?_)
       refine aw av (ar O (.cons (.tmp O) (.cons (.tmp O) .nil)) O) (fun w' hM' hK' => ?_)
       exact ⟨_, fun h => by obtain ⟨e1, e2, e3⟩ := hrv h; rw [h, e3]; subst e1; subst e2; rw [Bool.eq_iff_iff]; simp [within] at *; omega, rfl, hK', hM'.sel [] rfl⟩
     ·
      refine ag O O O O O O O (ag O O O O O O O ?_)
      refine aa O O O (aE O O O) (ai ?_)
      refine ae (hK23 _ _ ?_)
      refine bq O (aC ?_)
      refine ae (hK22 _ _ ?_)
      refine ah fun K26 hK26 => aj (aa O O O (af O O) ?_)
      refine aa O O O (af O O) (aa O O O (af O O) ?_)
      refine aa O O O (bD O O O) (aa O O O (ak O O) ?_)
      refine aa O O O (ak O O) (ai ?_)
      refine ae (hK26 _ _ ?_)
      refine aw av (ar O (.cons (.tmp O) (.cons (.tmp O) .nil)) O) (fun w' hM' hK' => ?_)
      exact ⟨_, fun h => by obtain ⟨e1, e2, e3⟩ := hrv h; rw [h, e3]; subst e1; subst e2; rw [Bool.eq_iff_iff]; simp [within] at *; omega, rfl, hK', hM'.sel [] rfl⟩

theorem rv_lt (n : Nat) (s : List UInt8) : ∀ i, 1 ≤ i → i ≤ 4 → (rv n s i : Int) < bnd i := by
 have h1 : (rv n s 1 : Int) < 128 := by have := and_lt (s.getD 0 0) (msk n) 128 (msk_lt n); simp only [rv]; omega
 have h (j : Nat) : (s.getD j 0 &&& 63).toNat < 64 := and_lt _ 63 64 (by decide)
 intro i hi hi4
 rcases (by omega : i = 1 ∨ i = 2 ∨ i = 3 ∨ i = 4) with rfl | rfl | rfl | rfl
 ·
  exact h1
 ·
  have := h 1; have : rv n s 2 = _ := rv_succ n s 1 (by omega); simp only [bnd]; omega
 ·
  have := h 1; have := h 2; have : rv n s 2 = _ := rv_succ n s 1 (by omega); have : rv n s 3 = _ := rv_succ n s 2 (by omega); simp only [bnd]; omega
 ·
  have := h 1; have := h 2; have := h 3; have : rv n s 2 = _ := rv_succ n s 1 (by omega); have : rv n s 3 = _ := rv_succ n s 2 (by omega); have : rv n s 4 = _ := rv_succ n s 3 (by omega); simp only [bnd]; omega

theorem rv_take (n : Nat) (s : List UInt8) (k : Nat) : ∀ i, i ≤ k → rv n (s.take k) i = rv n s i
 | 0, _ => rfl
 | 1, h => by
  have : (s.take k).getD 0 0 = s.getD 0 0 := by simp [List.getElem?_take, show 0 < k by omega]
  simp only [rv, this]
 | i + 2, h => by
  have : (s.take k).getD (i + 1) 0 = s.getD (i + 1) 0 := by simp [List.getElem?_take, show i + 1 < k by omega]
  simp only [rv, this, rv_take n s k (i + 1) (by omega)]
theorem conts_take (s : List UInt8) (k : Nat) : conts (s.take k) k = conts s k := by
 unfold conts
 rw [Bool.eq_iff_iff]
 simp only [List.all_eq_true, List.mem_range]
 refine forall_congr' fun i => forall_congr' fun hi => ?_
 have : (s.take k).getD i 0 = s.getD i 0 := by simp [List.getElem?_take, hi]
 rw [this]

/-- what 'first' answers -/
def fok (s : List UInt8) (x : Int × Int × Int) : Prop :=
 match firstM s with
 | some (r, k) => x = (r, (k : Int), 0)
 | none => x.2.2 ≠ 0

theorem first_c (s : List UInt8) (hs : s ≠ []) (hl : s.length ≤ 1000000) (w : World) : Calls Tryz.prog 106 [str s].toArray w fun e w' => ∃ x : Int × Int × Int, fok s x ∧ e = .returned (.tuple #[.int .i32 x.1, .int .i64 x.2.1, .int .i64 x.2.2]) ∧ Post w (blocksOf []) [] w' := by
 have hl0 : 0 < s.length := by cases s <;> simp at *
 have h0 : s[(0 : Int).toNat]? = some (s.getD 0 0) := by simp [hl0]
 have hn4 := szN_le (s.getD 0 0).toNat
 have hfm : fok s = fun x => match (if szN (s.getD 0 0).toNat = 0 ∨ s.length < szN (s.getD 0 0).toNat then none
   else if conts s (szN (s.getD 0 0).toNat) && within (mnR (szN (s.getD 0 0).toNat)) (mxR (szN (s.getD 0 0).toNat)) (rv (szN (s.getD 0 0).toNat) s (szN (s.getD 0 0).toNat)) then some ((rv (szN (s.getD 0 0).toNat) s (szN (s.getD 0 0).toNat) : Int), szN (s.getD 0 0).toNat) else none) with
  | some (r, k) => x = (r, (k : Int), 0)
  | none => x.2.2 ≠ 0 := by unfold fok firstM; rfl
 have hsz : szN (s.getD 0 0).toNat = szN (s.getD 0 0).toNat := rfl
 generalize hn : szN (s.getD 0 0).toNat = n at hn4 hfm
 rw [hfm]
 refine aJ (n := 62) (W := (blocksOf [])) (m := []) Tryz.func106 O Tryz.ntmps106 O (aO _ _ _) ?_
 simp only [SL.enum, Nat.reduceAdd]
 refine ah fun K1 hK1 => aj (aa O O O (ak O O) ?_)
 refine aa O O O (ak O O) (aa O O O (ak O O) ?_)
 refine ai (ae ?_)
 refine hK1 _ _ (ah fun K2 hK2 => ?_)
 refine aj (aa O O O (af O O) ?_)
 refine aa O O O (bQ O O O Tryz.underlying9 (by omega) h0) ?_
 refine am O (aN O O (by kernel_rfl) O O (fun w hM hK => sizeOf_c _ w)) ?_
 intro _ _
 try simp only [setN, putD, selM, nth, cw, cx]
 rw [hn]
 refine aa O O O (ak O O) (ai ?_)
 refine ae (hK2 _ _ ?_)
 refine ah fun K3 hK3 => aK (ah fun K4 hK4 => ?_)
 refine aj (aa O O O (af O O) ?_)
 refine aa O O O (bt O O O) (aa O O O (ak O O) ?_)
 refine ai (ae ?_)
 refine hK4 _ _ (aH O (fun hc15 => ?_) (fun hc15 => ?_))
 ·
  have hn0 : n = 0 := by simp at hc15; omega
  refine ah fun K5 hK5 => aj (aa O O O (ak O O) ?_)
  refine aa O O O (ak O O) (aa O O O (ak O O) ?_)
  refine ai (ae ?_)
  refine hK5 _ _ (aw (aP (aB av)) (ar O (.cons (.tmp O) (.cons (.tmp O) (.cons (.tmp O) .nil))) O) (fun w' hM' hK' => ?_))
  exact ⟨(0, 0, _), by rw [if_pos (by omega)]; simp, rfl, hK', hM'.sel [] rfl⟩
 ·
  have hn0 : 1 ≤ n := by simp at hc15; omega
  refine ah fun K6 hK6 => aj (aa O O O (af O O) ?_)
  refine aa O O O (bf O O O Tryz.underlying9) (aa O O O (af O O) ?_)
  refine aa O O O (aT O O O) (aa O O O (ak O O) ?_)
  refine ai (ae ?_)
  refine hK6 _ _ (aH O (fun hc18 => ?_) (fun hc18 => ?_))
  ·
   have hlt : s.length < n := by simp at hc18; omega
   refine ah fun K7 hK7 => ah fun K8 hK8 => aj (aa O O O (af O O) ?_)
   refine am O (aM [] [] O O (by kernel_rfl) O O O O (fun w hM hK => begins_c s hs hl w)) ?_
   intro bb hbb
   try simp only [setN, putD, selM, nth, cw, cx]
   refine aa O O O (af O O) (aa O O O (aW O O O) ?_)
   refine aa O O O (aW O O O) (aa O O O (ak O O) ?_)
   refine aa O O O (ak O O) (ai ?_)
   refine ae (hK8 _ _ ?_)
   refine ah fun K9 hK9 => aj (aa O O O (af O O) ?_)
   refine ai (ae ?_)
   refine hK9 _ _ (aH O (fun hc28 => ?_) (fun hc28 => ?_))
   ·
    refine ah fun K10 hK10 => aj (aa O O O (ak O O) ?_)
    refine aa O O O (ak O O) (aa O O O (ak O O) ?_)
    refine ai (ae ?_)
    refine hK10 _ _ (aw (aB (aP (aB av))) (ar O (.cons (.tmp O) (.cons (.tmp O) (.cons (.tmp O) .nil))) O) (fun w' hM' hK' => ?_))
    exact ⟨(0, 0, _), by rw [if_pos (by omega)]; simp, rfl, hK', hM'.sel [] rfl⟩
   ·
    refine aC (ae ?_)
    refine hK7 _ _ (ah fun K11 hK11 => ?_)
    refine aj (aa O O O (ak O O) ?_)
    refine aa O O O (ak O O) (aa O O O (ak O O) ?_)
    refine ai (ae ?_)
    refine hK11 _ _ (aw (aP (aB av)) (ar O (.cons (.tmp O) (.cons (.tmp O) (.cons (.tmp O) .nil))) O) (fun w' hM' hK' => ?_))
    exact ⟨(0, 0, _), by rw [if_pos (by omega)]; simp, rfl, hK', hM'.sel [] rfl⟩
  ·
   have hle : n ≤ s.length := by simp at hc18; omega
   refine aC (aQ ?_)
   refine ae (hK3 _ _ ?_)
   refine ah fun K12 hK12 => ah fun K13 hK13 => aj (aa O O O (af O O) ?_)
   refine aa O O O (af O O) (aa O O O (SL.Pure.sliceSTo (r := s.take n) O O Tryz.underlying9 O O (by omega) (by omega) (by omega) (by simp)) ?_)
   refine am O (aM [] [] O O (by kernel_rfl) O O O O (fun w hM hK => begins_c (s.take n) (by intro h; have := congrArg List.length h; rw [List.length_take, List.length_nil] at this; omega) (by simp; omega) w)) ?_
   intro gb hgb
   try simp only [setN, putD, selM, nth, cw, cx]
   have hg0 : (s.take n).getD 0 0 = s.getD 0 0 := by simp [List.getElem?_take, show 0 < n by omega]
   have hgl : (s.take n).length = n := by simp; omega
   have hgood : gb = (conts s n && within (mnR n) (mxR n) (rv n s n)) := by
    have := hgb (by rw [hg0, hn, hgl])
    rw [this, hgl, conts_take, rv_take n s n n (Nat.le_refl _)]
   clear hgb
   refine aa O O O (af O O) (aa O O O (aW O O O) ?_)
   refine aa O O O (aW O O O) (aa O O O (ak O O) ?_)
   refine aa O O O (ak O O) (ai ?_)
   refine ae (hK13 _ _ ?_)
   refine ah fun K14 hK14 => aj (aa O O O (af O O) ?_)
   refine aa O O O (bM O O) (ai ?_)
   refine ae (hK14 _ _ ?_)
   refine aH O (fun hc37 => ?_) (fun hc37 => ?_)
   ·
    have hbad : gb = false := by simpa using hc37
    refine ah fun K15 hK15 => aj (aa O O O (ak O O) ?_)
    refine aa O O O (ak O O) (aa O O O (ak O O) ?_)
    refine ai (ae ?_)
    refine hK15 _ _ (aw (aB av) (ar O (.cons (.tmp O) (.cons (.tmp O) (.cons (.tmp O) .nil))) O) (fun w' hM' hK' => ?_))
    exact ⟨(0, 0, 3), by rw [if_neg (by omega), ← hgood, hbad]; simp, rfl, hK', hM'.sel [] rfl⟩
   ·
    have hgd : gb = true := by simpa using hc37
    refine aC (ae ?_)
    refine hK12 _ _ (ah fun K16 hK16 => ?_)
    obtain ⟨clo, chi, hcl⟩ := clsAt n hn0 hn4
    refine SL.Ok.quiet mixed (by kernel_rfl) ?_
    refine aA O O O (az (af O O)) (aA O O O (az (bQ O O O Tryz.underlying9 (by omega) h0)) ?_)
    refine aA O O O (bL O O (by kernel_rfl) O (fun w hM hK => classes_c w)) ?_
    refine aA O O O (az (af O O)) (aA O O O (az (bU O O O O (by omega) (by omega))) ?_)
    refine aA O O O (az (bY (sz := 5) O O O Tryz.underlying174 (by kernel_rfl) (by kernel_rfl) (by omega) (by omega) (by rw [show Int.toNat ((n : Int) - 1) = n - 1 by omega]; exact hcl))) ?_
    refine aA O O O (az (SL.Pure.field1 (off := 2) (t := 5) O O (by kernel_rfl) (by kernel_rfl) (by kernel_rfl) O)) ?_
    refine aA O O O (az (SL.Pure.andU8 _ _ O O O)) (aA O O O (az (SL.Pure.conv8R O O (by kernel_rfl) Tryz.underlying21)) ?_)
    refine aA O O O (az (ak O O)) (SL.OkQ.done ?_)
    refine ae (hK16 _ _ ?_)
    refine ah fun K17 hK17 => ah fun K18 hK18 => aj (aa O O O (ak O O) ?_)
    refine ai (ae ?_)
    refine hK18 _ _ (aK ?_)
    refine bu (X := Nat) (φ := fun i => 1 ≤ i ∧ i ≤ n) (L := fun i => [(0, str s), (5, .int .i64 n), (10, .int .i32 (rv n s i)), (11, .int .i64 i)]) (M := fun i => []) (μ := fun i => n - i) ?_ ?_
    ·
     exact fun _ _ st => ⟨1, ⟨Nat.le_refl _, hn0⟩, st.to [] ⟨rfl, rfl, rfl, rfl, trivial⟩ O rfl⟩
    ·
     intro i ⟨hi1, hi2⟩
     try dsimp only
     refine ah fun K19 hK19 => ah fun K20 hK20 => aj (aa O O O (af O O) ?_)
     refine aa O O O (af O O) (aa O O O (aT O O O) ?_)
     refine ai (ae ?_)
     refine hK20 _ _ (aH O (fun hc49 => ?_) (fun hc49 => ?_))
     ·
      have hlt : i < n := by simp at hc49; omega
      have hsi : s[((i : Nat) : Int).toNat]? = some (s.getD i 0) := by simp [show i < s.length by omega]
      have h63 := and_lt (s.getD i 0) 63 64 (by decide)
      have hb0 := rv_lt n s i hi1 (by omega)
      have hb1 : bnd i ≤ 524288 := by
       rcases (by omega : i = 1 ∨ i = 2 ∨ i = 3) with rfl | rfl | rfl <;> decide
      refine aC (ae ?_)
      refine hK19 _ _ (ah fun K21 hK21 => ?_)
      refine aK (aj ?_)
      refine aa O O O (af O O) (aa O O O (cv O O O (by decide) (shl6 _ (Int.natCast_nonneg _) (by omega))) ?_)
      refine aa O O O (af O O) (aa O O O (af O O) ?_)
      refine aa O O O (bQ O O O Tryz.underlying9 (by omega) hsi) ?_
      refine aa O O O (SL.Pure.andU8 _ 63 O O O) (aa O O O (SL.Pure.conv8R O O (by kernel_rfl) Tryz.underlying21) ?_)
      refine aa O O O (SL.Pure.or (r := ((rv n s (i + 1) : Nat) : Int)) O O O ((or_low _ _ (Int.natCast_nonneg _) (by omega) (Int.natCast_nonneg _) (by omega)).trans (by rw [rv_succ n s i hi1]; omega))) ?_
      refine aa O O O (ak O O) (ai ?_)
      refine aQ (ae ?_)
      refine hK21 _ _ (aj ?_)
      refine aa O O O (af O O) (aa O O O (aL O O O O (by omega) (by omega)) ?_)
      refine aa O O O (ak O O) (ai ?_)
      refine ae ?_
      exact bd (i + 1) [] ⟨by omega, by omega⟩ (show n - (i + 1) < n - i by omega) ⟨rfl, rfl, rfl, rfl, trivial⟩ O rfl
     ·
      have hin : i = n := by simp at hc49; omega
      subst hin
      refine aU (aI ?_)
      refine aI (aV ?_)
      refine ae (hK17 _ _ ?_)
      refine ah fun K22 hK22 => aj (aa O O O (af O O) ?_)
      refine aa O O O (af O O) (aa O O O (ak O O) ?_)
      refine aa O O O (ak O O) (aa O O O (ak O O) ?_)
      refine ai (ae ?_)
      refine hK22 _ _ (aw av (ar O (.cons (.tmp O) (.cons (.tmp O) (.cons (.tmp O) .nil))) O) (fun w' hM' hK' => ?_))
      exact ⟨(_, _, _), by rw [if_neg (by omega), ← hgood, hgd]; rfl, rfl, hK', hM'⟩

/-- is it all valid? -/
def valF : Nat → List UInt8 → Bool
 | _, [] => true
 | 0, _ :: _ => false
 | k + 1, c :: t => match firstM (c :: t) with
  | none => false
  | some (_, n) => valF k ((c :: t).drop n)
def valid (s : List UInt8) : Bool := valF s.length s

theorem firstM_n {s : List UInt8} {r : Int} {n : Nat} (h : firstM s = some (r, n)) : 1 ≤ n ∧ n ≤ s.length ∧ 0 ≤ r := by
 unfold firstM at h
 simp only at h
 split at h
 ·
  cases h
 ·
  split at h
  ·
   simp only [Option.some.injEq, Prod.mk.injEq] at h
   omega
  ·
   cases h

theorem valF_ge : ∀ (k : Nat) (s : List UInt8), s.length ≤ k → valF k s = valF s.length s := by
  intro k
  induction k using Nat.strongRecOn with
  | _ k ih =>
    intro s hs
    match k, s with
    | _, [] => simp [valF]
    | 0, c :: t => simp at hs
    | k + 1, c :: t =>
      show _ = valF (t.length + 1) (c :: t)
      unfold valF
      cases hf : firstM (c :: t) with
      | none => rfl
      | some p =>
        obtain ⟨r, n⟩ := p
        simp only
        obtain ⟨h1, h2, _⟩ := firstM_n hf
        have hd : ((c :: t).drop n).length ≤ t.length := by simp; omega
        simp only [List.length_cons] at hs
        rw [ih k (by omega) _ (by omega)]
        by_cases hk : t.length < k + 1
        · rw [ih t.length hk _ hd]
        · omega

theorem valid_step {s : List UInt8} (hs : s ≠ []) : valid s = match firstM s with
    | none => false
    | some (_, n) => valid (s.drop n) := by
  match s with
  | [] => exact absurd rfl hs
  | c :: t =>
    show valF (t.length + 1) (c :: t) = _
    unfold valF
    cases hf : firstM (c :: t) with
    | none => rfl
    | some p =>
      obtain ⟨r, n⟩ := p
      simp only
      obtain ⟨h1, h2, _⟩ := firstM_n hf
      exact valF_ge _ _ (by simp; omega)

theorem ucheck_c (s : List UInt8) (hl : s.length ≤ 1000000) (w : World) : Calls Tryz.prog 94 [str s].toArray w fun e w' => ∃ x : Int × Int, (0 ≤ x.1 ∧ x.1 ≤ s.length ∧ (x.2 = 0 ↔ valid s = true)) ∧ e = .returned (.tuple #[.int .i64 x.1, .int .i64 x.2]) ∧ Post w (blocksOf []) [] w' := by
 refine aJ (n := 27) (W := (blocksOf [])) (m := []) Tryz.func94 O Tryz.ntmps94 O (aO _ _ _) ?_
 simp only [SL.enum, Nat.reduceAdd]
 refine ah fun K1 hK1 => aj (aa O O O (ak O O) ?_)
 refine aa O O O (ak O O) (ai ?_)
 refine ae (hK1 _ _ ?_)
 refine ah fun K2 hK2 => ah fun K3 hK3 => aj (aa O O O (ak O O) ?_)
 refine ai (ae ?_)
 refine hK3 _ _ (aK ?_)
 refine bu (X := Nat) (φ := fun i => i ≤ s.length ∧ valid (s.drop i) = valid s) (L := fun i => [(0, str s), (4, .int .i64 i)]) (M := fun i => []) (μ := fun i => s.length - i) ?_ ?_
 ·
  exact fun _ _ st => ⟨0, ⟨Nat.zero_le _, by simp⟩, st.to [] ⟨rfl, rfl, trivial⟩ O rfl⟩
 ·
  intro i ⟨hi, hv⟩
  try dsimp only
  refine ah fun K4 hK4 => ah fun K5 hK5 => aj (aa O O O (af O O) ?_)
  refine aa O O O (af O O) (aa O O O (bf O O O Tryz.underlying9) ?_)
  refine aa O O O (aT O O O) (ai ?_)
  refine ae (hK5 _ _ ?_)
  refine aH O (fun hc11 => ?_) (fun hc11 => ?_)
  ·
   have hlt : i < s.length := by simp at hc11; omega
   have hne : s.drop i ≠ [] := by intro h; have := congrArg List.length h; simp at this; omega
   refine aC (ae ?_)
   refine hK4 _ _ (aK ?_)
   refine ah fun K6 hK6 => aj (aa O O O (af O O) ?_)
   refine aa O O O (af O O) (aa O O O (SL.Pure.sliceSTo (r := s.drop i) O O Tryz.underlying9 O O (by omega) (by omega) (by omega) (by simp)) ?_)
   refine am O (aM [] [] O O (by kernel_rfl) O O O O (fun w hM hK => first_c (s.drop i) hne (by simp; omega) w)) ?_
   intro ⟨fr, fk, fe⟩ hf
   try simp only [setN, putD, selM, nth, cw, cx]
   have hvs := valid_step hne
   unfold fok at hf
   refine aa O O O (af O O) (aa O O O (aW O O O) ?_)
   refine aa O O O (aW O O O) (aa O O O (aW O O O) ?_)
   refine aa O O O (ak O O) (aa O O O (ak O O) ?_)
   refine aa O O O (ak O O) (ai ?_)
   refine ae (hK6 _ _ ?_)
   refine ah fun K7 hK7 => ah fun K8 hK8 => aj (aa O O O (af O O) ?_)
   refine aa O O O (bl O O O) (ai ?_)
   refine ae (hK8 _ _ ?_)
   refine aH O (fun hc21 => ?_) (fun hc21 => ?_)
   ·
    have hfe : fe ≠ 0 := by simpa using hc21
    have hfn : firstM (s.drop i) = none := by
     cases hm : firstM (s.drop i) with
     | none => rfl
     | some p => obtain ⟨r, k⟩ := p; simp [hm] at hf; omega
    refine ah fun K9 hK9 => aj (aa O O O (af O O) ?_)
    refine aa O O O (af O O) (aa O O O (ak O O) ?_)
    refine aa O O O (ak O O) (ai ?_)
    refine ae (hK9 _ _ ?_)
    refine aw (aB (aP (aB (aP (aB av))))) (ar O (.cons (.tmp O) (.cons (.tmp O) .nil)) O) (fun w' hM' hK' => ?_)
    exact ⟨((i : Int), fe), ⟨Int.natCast_nonneg _, by dsimp only; omega, by rw [hfn] at hvs; simp [← hv, hvs, hfe]⟩, rfl, hK', hM'⟩
   ·
    have hfe : fe = 0 := by simpa using hc21
    obtain ⟨r, k, hm⟩ : ∃ r k, firstM (s.drop i) = some (r, k) := by
     cases hm : firstM (s.drop i) with
     | none => simp [hm] at hf; omega
     | some p => exact ⟨p.1, p.2, rfl⟩
    simp only [hm, Prod.mk.injEq] at hf
    obtain ⟨hk1, hk2, _⟩ := firstM_n hm
    simp at hk2
    rw [hm] at hvs
    simp only [List.drop_drop] at hvs
    rw [hf.2.1]
    refine aC (ae ?_)
    refine hK7 _ _ (aj ?_)
    refine aa O O O (af O O) (aa O O O (af O O) ?_)
    refine aa O O O (aL O O O O (by omega) (by omega)) ?_
    refine aa O O O (ak O O) (ai ?_)
    refine aQ (ae ?_)
    exact bd (i + k) [] ⟨by omega, by rw [← hv, hvs]⟩ (show s.length - (i + k) < s.length - i by omega) ⟨rfl, rfl, trivial⟩ O rfl
  ·
   have he : i = s.length := by simp at hc11; omega
   subst he
   refine aU (aI ?_)
   refine aI (aV ?_)
   refine ae (hK2 _ _ ?_)
   refine ah fun K10 hK10 => aj (aa O O O (ak O O) ?_)
   refine aa O O O (ak O O) (ai ?_)
   refine ae (hK10 _ _ ?_)
   refine aw av (ar O (.cons (.tmp O) (.cons (.tmp O) .nil)) O) (fun w' hM' hK' => ?_)
   exact ⟨((0 : Int), (0 : Int)), ⟨Int.le_refl _, by dsimp only; omega, by rw [← hv]; simp [valid, valF]⟩, rfl, hK', hM'⟩

theorem uvalid_c (s : List UInt8) (hl : s.length ≤ 1000000) (w : World) : Calls Tryz.prog 81 [str s].toArray w fun e w' => e = .returned (.bool (valid s)) ∧ Keeps none1 w w' := by
 refine aJ (n := 12) (W := SL.none1) (m := []) Tryz.func81 O Tryz.ntmps81 O (aO _ _ _) ?_
 simp only [SL.enum, Nat.reduceAdd]
 refine ah fun K1 hK1 => aj (aa O O O (ak O O) ?_)
 refine ai (ae ?_)
 refine hK1 _ _ (ah fun K2 hK2 => ?_)
 refine aj (aa O O O (af O O) ?_)
 refine am O (aM [] [] O O (by kernel_rfl) O O O O (fun w hM hK => ucheck_c s hl w)) ?_
 intro x hx
 try simp only [setN, putD, selM, nth, cw, cx]
 refine aa O O O (af O O) (aa O O O (aW O O O) ?_)
 refine aa O O O (aW O O O) (aa O O O (ak O O) ?_)
 refine aa O O O (ak O O) (ai ?_)
 refine ae (hK2 _ _ ?_)
 refine ah fun K3 hK3 => aj (aa O O O (af O O) ?_)
 refine aa O O O (bt O O O) (aa O O O (ak O O) ?_)
 refine ai (ae ?_)
 refine hK3 _ _ (aw av (ar O (.cons (.tmp O) .nil) O) (fun w' hM' hK' => ?_))
 refine ⟨bj ?_, hK'⟩
 simp only [decide_eq_true_eq]
 exact hx.2.2
end Go.Proofs.YthfhhkanpnemcaaGreatDoor
