/- The law's own small functions: Own, Back, Same. The law's own small functions: Same. -/
import Derived.Test.YthfhhkanpnemcaaGreatDoorM5
namespace Go.Proofs.YthfhhkanpnemcaaGreatDoor
open Go.SL Go.RowKit IntWalk
set_option linter.unusedVariables false
set_option maxRecDepth 100000
set_option linter.unusedSimpArgs false
set_option maxHeartbeats 1000000

abbrev crows (c : Con) (p : CAt) : List Res := [.row (.slice p.ra c.refs.length p.rc) 26 32 c.refs.length (idsV c.refs), .row (.slice p.ga c.groups.length p.gc) 9 1 c.groups.length (c.groups.map str)]
def cat (c : Con) (p : CAt) : Prop := p.gl = c.groups.length ∧ p.rl = c.refs.length ∧ p.gl ≤ p.gc ∧ p.rl ≤ p.rc


theorem back_c (c : Con) (p : CAt) (w : World) : Calls Tryz.prog 13 [.agg (flat (cseg c p))].toArray w fun e w' => e = .returned (.agg (flat (cseg c p))) ∧ Keeps none1 w w' := by
 refine aJ (n := 34) (W := SL.none1) (m := []) Tryz.func13 O Tryz.ntmps13 O (aO _ _ _) ?_
 simp only [SL.enum, Nat.reduceAdd]
 refine ah fun K1 hK1 => aj (am O (bh _ O O O O O) ?_)
 intro b1 _
 try simp only [setN, putD, selM, nth, cw, cx]
 refine am O (aX [Seg.one (str []) rfl, (B.zero 16).seg, Seg.one (.int .i64 0) rfl, Seg.one (.slice none 0 0) rfl, Seg.one (str []) rfl, Seg.one (.slice none 0 0) rfl, (B.zero 32).seg, Seg.one (str []) rfl, Seg.one (str []) rfl, Seg.one (.int .i64 0) rfl, Seg.one (.int .i64 0) rfl, (B.zero 16).seg, Seg.one (.int .i64 0) rfl, Seg.one (str []) rfl] O O O (by kernel_rfl)) ?_
 intro b2 _
 try simp only [setN, putD, selM, nth, cw, cx]
 refine ai (ae ?_)
 refine hK1 _ _ (ah fun K2 hK2 => ?_)
 refine aj (aa O O O (au (k := 0) O O (by kernel_rfl) O) ?_)
 refine aa O O O (by first | exact al 0 O O O O (by kernel_rfl) | exact al 1 O O O O (by kernel_rfl)) ?_
 refine aa O O O (au (k := 1) O O (by kernel_rfl) O) ?_
 refine aa O O O (by first | exact ay 0 (k := 16) O O O (by kernel_rfl) O (by kernel_rfl) | exact ay 1 (k := 16) O O O (by kernel_rfl) O (by kernel_rfl)) ?_
 refine aa O O O (au (k := 17) O O (by kernel_rfl) O) ?_
 refine aa O O O (by first | exact al 0 O O O O (by kernel_rfl) | exact al 1 O O O O (by kernel_rfl)) ?_
 refine aa O O O (au (k := 18) O O (by kernel_rfl) O) ?_
 refine aa O O O (by first | exact al 0 O O O O (by kernel_rfl) | exact al 1 O O O O (by kernel_rfl)) ?_
 refine aa O O O (au (k := 19) O O (by kernel_rfl) O) ?_
 refine aa O O O (by first | exact al 0 O O O O (by kernel_rfl) | exact al 1 O O O O (by kernel_rfl)) ?_
 refine aa O O O (au (k := 20) O O (by kernel_rfl) O) ?_
 refine aa O O O (by first | exact al 0 O O O O (by kernel_rfl) | exact al 1 O O O O (by kernel_rfl)) ?_
 refine aa O O O (au (k := 21) O O (by kernel_rfl) O) ?_
 refine aa O O O (by first | exact ay 0 (k := 32) O O O (by kernel_rfl) O (by kernel_rfl) | exact ay 1 (k := 32) O O O (by kernel_rfl) O (by kernel_rfl)) ?_
 refine aa O O O (au (k := 53) O O (by kernel_rfl) O) ?_
 refine aa O O O (by first | exact al 0 O O O O (by kernel_rfl) | exact al 1 O O O O (by kernel_rfl)) ?_
 refine aa O O O (au (k := 54) O O (by kernel_rfl) O) ?_
 refine aa O O O (by first | exact al 0 O O O O (by kernel_rfl) | exact al 1 O O O O (by kernel_rfl)) ?_
 refine aa O O O (au (k := 55) O O (by kernel_rfl) O) ?_
 refine aa O O O (by first | exact al 0 O O O O (by kernel_rfl) | exact al 1 O O O O (by kernel_rfl)) ?_
 refine aa O O O (au (k := 56) O O (by kernel_rfl) O) ?_
 refine aa O O O (au (k := 0) O O (by kernel_rfl) O) ?_
 refine aa O O O (by first | exact al 0 O O O O (by kernel_rfl) | exact al 1 O O O O (by kernel_rfl)) ?_
 refine aa O O O (au (k := 56) O O (by kernel_rfl) O) ?_
 refine aa O O O (au (k := 1) O O (by kernel_rfl) O) ?_
 refine aa O O O (by first | exact ay 0 (k := 16) O O O (by kernel_rfl) O (by kernel_rfl) | exact ay 1 (k := 16) O O O (by kernel_rfl) O (by kernel_rfl)) ?_
 refine aa O O O (au (k := 73) O O (by kernel_rfl) O) ?_
 refine aa O O O (by first | exact al 0 O O O O (by kernel_rfl) | exact al 1 O O O O (by kernel_rfl)) ?_
 refine aa O O O (au (k := 74) O O (by kernel_rfl) O) ?_
 refine aa O O O (by first | exact al 0 O O O O (by kernel_rfl) | exact al 1 O O O O (by kernel_rfl)) ?_
 refine aa O O O (bg [(0, 1), (1, 16), (17, 1), (18, 1), (19, 1), (20, 1), (21, 32), (53, 1), (54, 1), (55, 1), (56, 1), (57, 16), (73, 1), (74, 1)] [Seg.one (str []) rfl, (B.zero 16).seg, Seg.one (.int .i64 0) rfl, Seg.one (.slice none 0 0) rfl, Seg.one (str []) rfl, Seg.one (.slice none 0 0) rfl, (B.zero 32).seg, Seg.one (str []) rfl, Seg.one (str []) rfl, Seg.one (.int .i64 0) rfl, Seg.one (.int .i64 0) rfl, (B.zero 16).seg, Seg.one (.int .i64 0) rfl, Seg.one (str []) rfl] O O (.cons (.one O) (.cons .agg (.cons (.one O) (.cons (.one O) (.cons (.one O) (.cons (.one O) (.cons .agg (.cons (.one O) (.cons (.one O) (.cons (.one O) (.cons (.one O) (.cons .agg (.cons (.one O) (.cons (.one O) .nil)))))))))))))) (by kernel_rfl) (by kernel_rfl) O) ?_
 refine am O (by first | exact ap (k := 75) 0 _ O O O O O O (by kernel_rfl) O O | exact ap (k := 75) 1 _ O O O O O O (by kernel_rfl) O O) ?_
 intro _ _
 try simp only [setN, putD, selM, nth, cw, cx]
 refine ai (ae ?_)
 refine hK2 _ _ (aw av (ar O (.cons (by first | exact SL.RV.cellA 0 (k := 75) O O (by kernel_rfl) O (by kernel_rfl) | exact SL.RV.cellA 1 (k := 75) O O (by kernel_rfl) O (by kernel_rfl)) .nil) O) (fun w' hM' hK' => ?_))
 exact ⟨rfl, hK'⟩
end Go.Proofs.YthfhhkanpnemcaaGreatDoor
namespace Go.Proofs.YthfhhkanpnemcaaGreatDoor
open Go.SL Go.RowKit IntWalk
set_option linter.unusedVariables false
set_option maxRecDepth 100000
set_option linter.unusedSimpArgs false
set_option maxHeartbeats 1000000

theorem same_c (a b : Con) (p q : CAt) (w : World) (hA : CRd w a p) (hB : CRd w b q) :
  Calls Tryz.prog 10 [.agg (flat (cseg a p)), .agg (flat (cseg b q))].toArray w fun e w' => e = .returned (.bool (decide (a = b))) ∧ Keeps none1 w w' := by
 obtain ⟨hg, hr, hgc, hrc⟩ := hA
 obtain ⟨hg', hr', hgc', hrc'⟩ := hB
 have hgl : a.groups.length = p.gl := by simpa using hg.1
 have hgl' : b.groups.length = q.gl := by simpa using hg'.1
 have hrl : a.refs.length = p.rl := by have := hr.1; rw [idsV_len] at this; omega
 have hrl' : b.refs.length = q.rl := by have := hr'.1; rw [idsV_len] at this; omega
 obtain ⟨pga, pgl, pgc, pra, prl, prc⟩ := p
 obtain ⟨qga, qgl, qgc, qra, qrl, qrc⟩ := q
 dsimp only at hg hr hgc hrc hg' hr' hgc' hrc' hgl hgl' hrl hrl'
 have hne : a ≠ b → Ending.returned (.bool false) = Ending.returned (.bool (decide (a = b))) := fun h => by rw [decide_eq_false h]
 have hpm := hg.2.1
 have hpm' := hr.2.1
 unfold maxLen at hpm hpm'
 subst hgl hgl' hrl hrl'
 have hg3 := hg.2.2
 have hr3 := hr.2.2
 have hg3' := hg'.2.2
 have hr3' := hr'.2.2
 refine aJ (n := 143) (W := SL.none1) (m := []) Tryz.func10 O Tryz.ntmps10 O (aO _ _ _) ?_
 simp only [SL.enum, Nat.reduceAdd]
 refine ah fun K1 hK1 => aj (am O (bh _ O O O O O) ?_)
 intro b2 _
 try simp only [setN, putD, selM, nth, cw, cx]
 refine am O (bh _ O O O O O) ?_
 intro b3 _
 try simp only [setN, putD, selM, nth, cw, cx]
 refine aa O O O (ak O O) (ai ?_)
 refine ae (hK1 _ _ ?_)
 refine ah fun K2 hK2 => ah fun K3 hK3 => aj (aa O O O (au (k := 0) O O (by kernel_rfl) O) ?_)
 refine aa O O O (by first | exact al 0 O O O O (by kernel_rfl) | exact al 1 O O O O (by kernel_rfl)) ?_
 refine aa O O O (au (k := 0) O O (by kernel_rfl) O) ?_
 refine aa O O O (by first | exact al 0 O O O O (by kernel_rfl) | exact al 1 O O O O (by kernel_rfl)) ?_
 refine aa O O O (SL.Pure.neS O O O) (aa O O O (af O O) ?_)
 refine aR (d := 12) O (fun hg12 => ?_) (fun hg12 => ?_)
 ·
  refine ag O O O O O O O (ag O O O O O O O ?_)
  refine ag O O O O O O O (ag O O O O O O O ?_)
  refine ag O O O O O O O (aa O O O (aF O O O) ?_)
  refine aa O O O (af O O) (ag O O O O O O O ?_)
  refine ag O O O O O O O (ag O O O O O O O ?_)
  refine ag O O O O O O O (ag O O O O O O O ?_)
  refine aa O O O (aF O O O) (aa O O O (af O O) ?_)
  refine ag O O O O O O O (ag O O O O O O O ?_)
  refine ag O O O O O O O (ag O O O O O O O ?_)
  refine ag O O O O O O O (aa O O O (aF O O O) ?_)
  refine aa O O O (af O O) (ag O O O O O O O ?_)
  refine ag O O O O O O O (ag O O O O O O O ?_)
  refine ag O O O O O O O (ag O O O O O O O ?_)
  refine aa O O O (aF O O O) (aa O O O (af O O) ?_)
  refine ag O O O O O O O (ag O O O O O O O ?_)
  refine ag O O O O O O O (ag O O O O O O O ?_)
  refine ag O O O O O O O (aa O O O (aF O O O) ?_)
  refine aa O O O (af O O) (ag O O O O O O O ?_)
  refine ag O O O O O O O (ag O O O O O O O ?_)
  refine ag O O O O O O O (ag O O O O O O O ?_)
  refine aa O O O (aF O O O) (aa O O O (af O O) ?_)
  refine ag O O O O O O O (ag O O O O O O O ?_)
  refine ag O O O O O O O (ag O O O O O O O ?_)
  refine ag O O O O O O O (aa O O O (aF O O O) ?_)
  refine aa O O O (af O O) (ag O O O O O O O ?_)
  refine ag O O O O O O O (ag O O O O O O O ?_)
  refine ag O O O O O O O (ag O O O O O O O ?_)
  refine aa O O O (aF O O O) (aa O O O (af O O) ?_)
  refine ag O O O O O O O (ag O O O O O O O ?_)
  refine ag O O O O O O O (ag O O O O O O O ?_)
  refine ag O O O O O O O (aa O O O (aF O O O) ?_)
  refine aa O O O (af O O) (ag O O O O O O O ?_)
  refine ag O O O O O O O (ag O O O O O O O ?_)
  refine ag O O O O O O O (ag O O O O O O O ?_)
  refine aa O O O (aF O O O) (aa O O O (af O O) ?_)
  refine ag O O O O O O O (ag O O O O O O O ?_)
  refine ag O O O O O O O (ag O O O O O O O ?_)
  refine ag O O O O O O O (aa O O O (aF O O O) ?_)
  refine aa O O O (af O O) (ag O O O O O O O ?_)
  refine ag O O O O O O O (ag O O O O O O O ?_)
  refine ag O O O O O O O (ag O O O O O O O ?_)
  refine ag O O O O O O O (ag O O O O O O O ?_)
  refine aa O O O (aF O O O) (aa O O O (af O O) ?_)
  refine ag O O O O O O O (ag O O O O O O O ?_)
  refine ag O O O O O O O (ag O O O O O O O ?_)
  refine ag O O O O O O O (ag O O O O O O O ?_)
  refine ag O O O O O O O (aa O O O (aF O O O) ?_)
  refine ai (ae ?_)
  refine hK3 _ _ (bk O ?_)
  refine ah fun K4 hK4 => aj (aa O O O (ak O O) ?_)
  refine ai (ae ?_)
  refine hK4 _ _ (aw (aB av) (ar O (.cons (.tmp O) .nil) O) (fun w' hM' hK' => ?_))
  exact ⟨hne (fun h => by subst h; simp at *), hK'⟩
 ·
  refine aq O O O O O O O (au (k := 1) O O (by kernel_rfl) O) ?_
  refine aq O O O O O O O (by first | exact ay 0 (k := 16) O O O (by kernel_rfl) O (by kernel_rfl) | exact ay 1 (k := 16) O O O (by kernel_rfl) O (by kernel_rfl)) ?_
  refine aq O O O O O O O (au (k := 1) O O (by kernel_rfl) O) ?_
  refine aq O O O O O O O (by first | exact ay 0 (k := 16) O O O (by kernel_rfl) O (by kernel_rfl) | exact ay 1 (k := 16) O O O (by kernel_rfl) O (by kernel_rfl)) ?_
  refine aq O O O O O O O (SL.Pure.neB O O O Tryz.underlying22 Tryz.underlying5 (by kernel_rfl) (by kernel_rfl)) ?_
  refine aa O O O (aE O O O) (aa O O O (af O O) ?_)
  refine aR (d := 19) O (fun hg19 => ?_) (fun hg19 => ?_)
  ·
   refine ag O O O O O O O (ag O O O O O O O ?_)
   refine ag O O O O O O O (ag O O O O O O O ?_)
   refine ag O O O O O O O (aa O O O (aF O O O) ?_)
   refine aa O O O (af O O) (ag O O O O O O O ?_)
   refine ag O O O O O O O (ag O O O O O O O ?_)
   refine ag O O O O O O O (ag O O O O O O O ?_)
   refine aa O O O (aF O O O) (aa O O O (af O O) ?_)
   refine ag O O O O O O O (ag O O O O O O O ?_)
   refine ag O O O O O O O (ag O O O O O O O ?_)
   refine ag O O O O O O O (aa O O O (aF O O O) ?_)
   refine aa O O O (af O O) (ag O O O O O O O ?_)
   refine ag O O O O O O O (ag O O O O O O O ?_)
   refine ag O O O O O O O (ag O O O O O O O ?_)
   refine aa O O O (aF O O O) (aa O O O (af O O) ?_)
   refine ag O O O O O O O (ag O O O O O O O ?_)
   refine ag O O O O O O O (ag O O O O O O O ?_)
   refine ag O O O O O O O (aa O O O (aF O O O) ?_)
   refine aa O O O (af O O) (ag O O O O O O O ?_)
   refine ag O O O O O O O (ag O O O O O O O ?_)
   refine ag O O O O O O O (ag O O O O O O O ?_)
   refine aa O O O (aF O O O) (aa O O O (af O O) ?_)
   refine ag O O O O O O O (ag O O O O O O O ?_)
   refine ag O O O O O O O (ag O O O O O O O ?_)
   refine ag O O O O O O O (aa O O O (aF O O O) ?_)
   refine aa O O O (af O O) (ag O O O O O O O ?_)
   refine ag O O O O O O O (ag O O O O O O O ?_)
   refine ag O O O O O O O (ag O O O O O O O ?_)
   refine aa O O O (aF O O O) (aa O O O (af O O) ?_)
   refine ag O O O O O O O (ag O O O O O O O ?_)
   refine ag O O O O O O O (ag O O O O O O O ?_)
   refine ag O O O O O O O (aa O O O (aF O O O) ?_)
   refine aa O O O (af O O) (ag O O O O O O O ?_)
   refine ag O O O O O O O (ag O O O O O O O ?_)
   refine ag O O O O O O O (ag O O O O O O O ?_)
   refine aa O O O (aF O O O) (aa O O O (af O O) ?_)
   refine ag O O O O O O O (ag O O O O O O O ?_)
   refine ag O O O O O O O (ag O O O O O O O ?_)
   refine ag O O O O O O O (ag O O O O O O O ?_)
   refine ag O O O O O O O (aa O O O (aF O O O) ?_)
   refine aa O O O (af O O) (ag O O O O O O O ?_)
   refine ag O O O O O O O (ag O O O O O O O ?_)
   refine ag O O O O O O O (ag O O O O O O O ?_)
   refine ag O O O O O O O (ag O O O O O O O ?_)
   refine aa O O O (aF O O O) (ai ?_)
   refine ae (hK3 _ _ ?_)
   refine bk O (ah fun K5 hK5 => ?_)
   refine aj (aa O O O (ak O O) ?_)
   refine ai (ae ?_)
   refine hK5 _ _ (aw (aB av) (ar O (.cons (.tmp O) .nil) O) (fun w' hM' hK' => ?_))
   exact ⟨hne (fun h => by subst h; simp at *), hK'⟩
  ·
   refine aq O O O O O O O (au (k := 17) O O (by kernel_rfl) O) ?_
   refine aq O O O O O O O (by first | exact al 0 O O O O (by kernel_rfl) | exact al 1 O O O O (by kernel_rfl)) ?_
   refine aq O O O O O O O (au (k := 17) O O (by kernel_rfl) O) ?_
   refine aq O O O O O O O (by first | exact al 0 O O O O (by kernel_rfl) | exact al 1 O O O O (by kernel_rfl)) ?_
   refine aq O O O O O O O (bl O O O) (aa O O O (aE O O O) ?_)
   refine aa O O O (af O O) (aR (d := 26) O (fun hg26 => ?_) (fun hg26 => ?_))
   ·
    refine ag O O O O O O O (ag O O O O O O O ?_)
    refine ag O O O O O O O (ag O O O O O O O ?_)
    refine ag O O O O O O O (aa O O O (aF O O O) ?_)
    refine aa O O O (af O O) (ag O O O O O O O ?_)
    refine ag O O O O O O O (ag O O O O O O O ?_)
    refine ag O O O O O O O (ag O O O O O O O ?_)
    refine aa O O O (aF O O O) (aa O O O (af O O) ?_)
    refine ag O O O O O O O (ag O O O O O O O ?_)
    refine ag O O O O O O O (ag O O O O O O O ?_)
    refine ag O O O O O O O (aa O O O (aF O O O) ?_)
    refine aa O O O (af O O) (ag O O O O O O O ?_)
    refine ag O O O O O O O (ag O O O O O O O ?_)
    refine ag O O O O O O O (ag O O O O O O O ?_)
    refine aa O O O (aF O O O) (aa O O O (af O O) ?_)
    refine ag O O O O O O O (ag O O O O O O O ?_)
    refine ag O O O O O O O (ag O O O O O O O ?_)
    refine ag O O O O O O O (aa O O O (aF O O O) ?_)
    refine aa O O O (af O O) (ag O O O O O O O ?_)
    refine ag O O O O O O O (ag O O O O O O O ?_)
    refine ag O O O O O O O (ag O O O O O O O ?_)
    refine aa O O O (aF O O O) (aa O O O (af O O) ?_)
    refine ag O O O O O O O (ag O O O O O O O ?_)
    refine ag O O O O O O O (ag O O O O O O O ?_)
    refine ag O O O O O O O (aa O O O (aF O O O) ?_)
    refine aa O O O (af O O) (ag O O O O O O O ?_)
    refine ag O O O O O O O (ag O O O O O O O ?_)
    refine ag O O O O O O O (ag O O O O O O O ?_)
    refine aa O O O (aF O O O) (aa O O O (af O O) ?_)
    refine ag O O O O O O O (ag O O O O O O O ?_)
    refine ag O O O O O O O (ag O O O O O O O ?_)
    refine ag O O O O O O O (aa O O O (aF O O O) ?_)
    refine aa O O O (af O O) (ag O O O O O O O ?_)
    refine ag O O O O O O O (ag O O O O O O O ?_)
    refine ag O O O O O O O (ag O O O O O O O ?_)
    refine ag O O O O O O O (ag O O O O O O O ?_)
    refine aa O O O (aF O O O) (aa O O O (af O O) ?_)
    refine ag O O O O O O O (ag O O O O O O O ?_)
    refine ag O O O O O O O (ag O O O O O O O ?_)
    refine ag O O O O O O O (ag O O O O O O O ?_)
    refine ag O O O O O O O (aa O O O (aF O O O) ?_)
    refine ai (ae ?_)
    refine hK3 _ _ (bk O ?_)
    refine ah fun K6 hK6 => aj (aa O O O (ak O O) ?_)
    refine ai (ae ?_)
    refine hK6 _ _ (aw (aB av) (ar O (.cons (.tmp O) .nil) O) (fun w' hM' hK' => ?_))
    exact ⟨hne (fun h => by subst h; simp at *), hK'⟩
   ·
    refine aq O O O O O O O (au (k := 19) O O (by kernel_rfl) O) ?_
    refine aq O O O O O O O (by first | exact al 0 O O O O (by kernel_rfl) | exact al 1 O O O O (by kernel_rfl)) ?_
    refine aq O O O O O O O (au (k := 19) O O (by kernel_rfl) O) ?_
    refine aq O O O O O O O (by first | exact al 0 O O O O (by kernel_rfl) | exact al 1 O O O O (by kernel_rfl)) ?_
    refine aq O O O O O O O (SL.Pure.neS O O O) (aa O O O (aE O O O) ?_)
    refine aa O O O (af O O) (aR (d := 33) O (fun hg33 => ?_) (fun hg33 => ?_))
    ·
     refine ag O O O O O O O (ag O O O O O O O ?_)
     refine ag O O O O O O O (ag O O O O O O O ?_)
     refine ag O O O O O O O (aa O O O (aF O O O) ?_)
     refine aa O O O (af O O) (ag O O O O O O O ?_)
     refine ag O O O O O O O (ag O O O O O O O ?_)
     refine ag O O O O O O O (ag O O O O O O O ?_)
     refine aa O O O (aF O O O) (aa O O O (af O O) ?_)
     refine ag O O O O O O O (ag O O O O O O O ?_)
     refine ag O O O O O O O (ag O O O O O O O ?_)
     refine ag O O O O O O O (aa O O O (aF O O O) ?_)
     refine aa O O O (af O O) (ag O O O O O O O ?_)
     refine ag O O O O O O O (ag O O O O O O O ?_)
     refine ag O O O O O O O (ag O O O O O O O ?_)
     refine aa O O O (aF O O O) (aa O O O (af O O) ?_)
     refine ag O O O O O O O (ag O O O O O O O ?_)
     refine ag O O O O O O O (ag O O O O O O O ?_)
     refine ag O O O O O O O (aa O O O (aF O O O) ?_)
     refine aa O O O (af O O) (ag O O O O O O O ?_)
     refine ag O O O O O O O (ag O O O O O O O ?_)
     refine ag O O O O O O O (ag O O O O O O O ?_)
     refine aa O O O (aF O O O) (aa O O O (af O O) ?_)
     refine ag O O O O O O O (ag O O O O O O O ?_)
     refine ag O O O O O O O (ag O O O O O O O ?_)
     refine ag O O O O O O O (aa O O O (aF O O O) ?_)
     refine aa O O O (af O O) (ag O O O O O O O ?_)
     refine ag O O O O O O O (ag O O O O O O O ?_)
     refine ag O O O O O O O (ag O O O O O O O ?_)
     refine aa O O O (aF O O O) (aa O O O (af O O) ?_)
     refine ag O O O O O O O (ag O O O O O O O ?_)
     refine ag O O O O O O O (ag O O O O O O O ?_)
     refine ag O O O O O O O (ag O O O O O O O ?_)
     refine ag O O O O O O O (aa O O O (aF O O O) ?_)
     refine aa O O O (af O O) (ag O O O O O O O ?_)
     refine ag O O O O O O O (ag O O O O O O O ?_)
     refine ag O O O O O O O (ag O O O O O O O ?_)
     refine ag O O O O O O O (ag O O O O O O O ?_)
     refine aa O O O (aF O O O) (ai ?_)
     refine ae (hK3 _ _ ?_)
     refine bk O (ah fun K7 hK7 => ?_)
     refine aj (aa O O O (ak O O) ?_)
     refine ai (ae ?_)
     refine hK7 _ _ (aw (aB av) (ar O (.cons (.tmp O) .nil) O) (fun w' hM' hK' => ?_))
     exact ⟨hne (fun h => by subst h; simp at *), hK'⟩
    ·
     refine aq O O O O O O O (au (k := 21) O O (by kernel_rfl) O) ?_
     refine aq O O O O O O O (by first | exact ay 0 (k := 32) O O O (by kernel_rfl) O (by kernel_rfl) | exact ay 1 (k := 32) O O O (by kernel_rfl) O (by kernel_rfl)) ?_
     refine aq O O O O O O O (au (k := 21) O O (by kernel_rfl) O) ?_
     refine aq O O O O O O O (by first | exact ay 0 (k := 32) O O O (by kernel_rfl) O (by kernel_rfl) | exact ay 1 (k := 32) O O O (by kernel_rfl) O (by kernel_rfl)) ?_
     refine aq O O O O O O O (SL.Pure.neB O O O Tryz.underlying26 Tryz.underlying5 (by kernel_rfl) (by kernel_rfl)) ?_
     refine aa O O O (aE O O O) (aa O O O (af O O) ?_)
     refine aR (d := 40) O (fun hg40 => ?_) (fun hg40 => ?_)
     ·
      refine ag O O O O O O O (ag O O O O O O O ?_)
      refine ag O O O O O O O (ag O O O O O O O ?_)
      refine ag O O O O O O O (aa O O O (aF O O O) ?_)
      refine aa O O O (af O O) (ag O O O O O O O ?_)
      refine ag O O O O O O O (ag O O O O O O O ?_)
      refine ag O O O O O O O (ag O O O O O O O ?_)
      refine aa O O O (aF O O O) (aa O O O (af O O) ?_)
      refine ag O O O O O O O (ag O O O O O O O ?_)
      refine ag O O O O O O O (ag O O O O O O O ?_)
      refine ag O O O O O O O (aa O O O (aF O O O) ?_)
      refine aa O O O (af O O) (ag O O O O O O O ?_)
      refine ag O O O O O O O (ag O O O O O O O ?_)
      refine ag O O O O O O O (ag O O O O O O O ?_)
      refine aa O O O (aF O O O) (aa O O O (af O O) ?_)
      refine ag O O O O O O O (ag O O O O O O O ?_)
      refine ag O O O O O O O (ag O O O O O O O ?_)
      refine ag O O O O O O O (aa O O O (aF O O O) ?_)
      refine aa O O O (af O O) (ag O O O O O O O ?_)
      refine ag O O O O O O O (ag O O O O O O O ?_)
      refine ag O O O O O O O (ag O O O O O O O ?_)
      refine aa O O O (aF O O O) (aa O O O (af O O) ?_)
      refine ag O O O O O O O (ag O O O O O O O ?_)
      refine ag O O O O O O O (ag O O O O O O O ?_)
      refine ag O O O O O O O (aa O O O (aF O O O) ?_)
      refine aa O O O (af O O) (ag O O O O O O O ?_)
      refine ag O O O O O O O (ag O O O O O O O ?_)
      refine ag O O O O O O O (ag O O O O O O O ?_)
      refine ag O O O O O O O (ag O O O O O O O ?_)
      refine aa O O O (aF O O O) (aa O O O (af O O) ?_)
      refine ag O O O O O O O (ag O O O O O O O ?_)
      refine ag O O O O O O O (ag O O O O O O O ?_)
      refine ag O O O O O O O (ag O O O O O O O ?_)
      refine ag O O O O O O O (aa O O O (aF O O O) ?_)
      refine ai (ae ?_)
      refine hK3 _ _ (bk O ?_)
      refine ah fun K8 hK8 => aj (aa O O O (ak O O) ?_)
      refine ai (ae ?_)
      refine hK8 _ _ (aw (aB av) (ar O (.cons (.tmp O) .nil) O) (fun w' hM' hK' => ?_))
      exact ⟨hne (fun h => by subst h; simp at *), hK'⟩
     ·
      refine aq O O O O O O O (au (k := 53) O O (by kernel_rfl) O) ?_
      refine aq O O O O O O O (by first | exact al 0 O O O O (by kernel_rfl) | exact al 1 O O O O (by kernel_rfl)) ?_
      refine aq O O O O O O O (au (k := 53) O O (by kernel_rfl) O) ?_
      refine aq O O O O O O O (by first | exact al 0 O O O O (by kernel_rfl) | exact al 1 O O O O (by kernel_rfl)) ?_
      refine aq O O O O O O O (SL.Pure.neS O O O) (aa O O O (aE O O O) ?_)
      refine aa O O O (af O O) (aR (d := 47) O (fun hg47 => ?_) (fun hg47 => ?_))
      ·
       refine ag O O O O O O O (ag O O O O O O O ?_)
       refine ag O O O O O O O (ag O O O O O O O ?_)
       refine ag O O O O O O O (aa O O O (aF O O O) ?_)
       refine aa O O O (af O O) (ag O O O O O O O ?_)
       refine ag O O O O O O O (ag O O O O O O O ?_)
       refine ag O O O O O O O (ag O O O O O O O ?_)
       refine aa O O O (aF O O O) (aa O O O (af O O) ?_)
       refine ag O O O O O O O (ag O O O O O O O ?_)
       refine ag O O O O O O O (ag O O O O O O O ?_)
       refine ag O O O O O O O (aa O O O (aF O O O) ?_)
       refine aa O O O (af O O) (ag O O O O O O O ?_)
       refine ag O O O O O O O (ag O O O O O O O ?_)
       refine ag O O O O O O O (ag O O O O O O O ?_)
       refine aa O O O (aF O O O) (aa O O O (af O O) ?_)
       refine ag O O O O O O O (ag O O O O O O O ?_)
       refine ag O O O O O O O (ag O O O O O O O ?_)
       refine ag O O O O O O O (aa O O O (aF O O O) ?_)
       refine aa O O O (af O O) (ag O O O O O O O ?_)
       refine ag O O O O O O O (ag O O O O O O O ?_)
       refine ag O O O O O O O (ag O O O O O O O ?_)
       refine aa O O O (aF O O O) (aa O O O (af O O) ?_)
       refine ag O O O O O O O (ag O O O O O O O ?_)
       refine ag O O O O O O O (ag O O O O O O O ?_)
       refine ag O O O O O O O (ag O O O O O O O ?_)
       refine ag O O O O O O O (aa O O O (aF O O O) ?_)
       refine aa O O O (af O O) (ag O O O O O O O ?_)
       refine ag O O O O O O O (ag O O O O O O O ?_)
       refine ag O O O O O O O (ag O O O O O O O ?_)
       refine ag O O O O O O O (ag O O O O O O O ?_)
       refine aa O O O (aF O O O) (ai ?_)
       refine ae (hK3 _ _ ?_)
       refine bk O (ah fun K9 hK9 => ?_)
       refine aj (aa O O O (ak O O) ?_)
       refine ai (ae ?_)
       refine hK9 _ _ (aw (aB av) (ar O (.cons (.tmp O) .nil) O) (fun w' hM' hK' => ?_))
       exact ⟨hne (fun h => by subst h; simp at *), hK'⟩
      ·
       refine aq O O O O O O O (au (k := 54) O O (by kernel_rfl) O) ?_
       refine aq O O O O O O O (by first | exact al 0 O O O O (by kernel_rfl) | exact al 1 O O O O (by kernel_rfl)) ?_
       refine aq O O O O O O O (au (k := 54) O O (by kernel_rfl) O) ?_
       refine aq O O O O O O O (by first | exact al 0 O O O O (by kernel_rfl) | exact al 1 O O O O (by kernel_rfl)) ?_
       refine aq O O O O O O O (SL.Pure.neS O O O) (aa O O O (aE O O O) ?_)
       refine aa O O O (af O O) (aR (d := 54) O (fun hg54 => ?_) (fun hg54 => ?_))
       ·
        refine ag O O O O O O O (ag O O O O O O O ?_)
        refine ag O O O O O O O (ag O O O O O O O ?_)
        refine ag O O O O O O O (aa O O O (aF O O O) ?_)
        refine aa O O O (af O O) (ag O O O O O O O ?_)
        refine ag O O O O O O O (ag O O O O O O O ?_)
        refine ag O O O O O O O (ag O O O O O O O ?_)
        refine aa O O O (aF O O O) (aa O O O (af O O) ?_)
        refine ag O O O O O O O (ag O O O O O O O ?_)
        refine ag O O O O O O O (ag O O O O O O O ?_)
        refine ag O O O O O O O (aa O O O (aF O O O) ?_)
        refine aa O O O (af O O) (ag O O O O O O O ?_)
        refine ag O O O O O O O (ag O O O O O O O ?_)
        refine ag O O O O O O O (ag O O O O O O O ?_)
        refine aa O O O (aF O O O) (aa O O O (af O O) ?_)
        refine ag O O O O O O O (ag O O O O O O O ?_)
        refine ag O O O O O O O (ag O O O O O O O ?_)
        refine ag O O O O O O O (aa O O O (aF O O O) ?_)
        refine aa O O O (af O O) (ag O O O O O O O ?_)
        refine ag O O O O O O O (ag O O O O O O O ?_)
        refine ag O O O O O O O (ag O O O O O O O ?_)
        refine ag O O O O O O O (ag O O O O O O O ?_)
        refine aa O O O (aF O O O) (aa O O O (af O O) ?_)
        refine ag O O O O O O O (ag O O O O O O O ?_)
        refine ag O O O O O O O (ag O O O O O O O ?_)
        refine ag O O O O O O O (ag O O O O O O O ?_)
        refine ag O O O O O O O (aa O O O (aF O O O) ?_)
        refine ai (ae ?_)
        refine hK3 _ _ (bk O ?_)
        refine ah fun K10 hK10 => aj (aa O O O (ak O O) ?_)
        refine ai (ae ?_)
        refine hK10 _ _ (aw (aB av) (ar O (.cons (.tmp O) .nil) O) (fun w' hM' hK' => ?_))
        exact ⟨hne (fun h => by subst h; simp at *), hK'⟩
       ·
        refine aq O O O O O O O (au (k := 55) O O (by kernel_rfl) O) ?_
        refine aq O O O O O O O (by first | exact al 0 O O O O (by kernel_rfl) | exact al 1 O O O O (by kernel_rfl)) ?_
        refine aq O O O O O O O (au (k := 55) O O (by kernel_rfl) O) ?_
        refine aq O O O O O O O (by first | exact al 0 O O O O (by kernel_rfl) | exact al 1 O O O O (by kernel_rfl)) ?_
        refine aq O O O O O O O (bl O O O) (aa O O O (aE O O O) ?_)
        refine aa O O O (af O O) (aR (d := 61) O (fun hg61 => ?_) (fun hg61 => ?_))
        ·
         refine ag O O O O O O O (ag O O O O O O O ?_)
         refine ag O O O O O O O (ag O O O O O O O ?_)
         refine ag O O O O O O O (aa O O O (aF O O O) ?_)
         refine aa O O O (af O O) (ag O O O O O O O ?_)
         refine ag O O O O O O O (ag O O O O O O O ?_)
         refine ag O O O O O O O (ag O O O O O O O ?_)
         refine aa O O O (aF O O O) (aa O O O (af O O) ?_)
         refine ag O O O O O O O (ag O O O O O O O ?_)
         refine ag O O O O O O O (ag O O O O O O O ?_)
         refine ag O O O O O O O (aa O O O (aF O O O) ?_)
         refine aa O O O (af O O) (ag O O O O O O O ?_)
         refine ag O O O O O O O (ag O O O O O O O ?_)
         refine ag O O O O O O O (ag O O O O O O O ?_)
         refine aa O O O (aF O O O) (aa O O O (af O O) ?_)
         refine ag O O O O O O O (ag O O O O O O O ?_)
         refine ag O O O O O O O (ag O O O O O O O ?_)
         refine ag O O O O O O O (ag O O O O O O O ?_)
         refine ag O O O O O O O (aa O O O (aF O O O) ?_)
         refine aa O O O (af O O) (ag O O O O O O O ?_)
         refine ag O O O O O O O (ag O O O O O O O ?_)
         refine ag O O O O O O O (ag O O O O O O O ?_)
         refine ag O O O O O O O (ag O O O O O O O ?_)
         refine aa O O O (aF O O O) (ai ?_)
         refine ae (hK3 _ _ ?_)
         refine bk O (ah fun K11 hK11 => ?_)
         refine aj (aa O O O (ak O O) ?_)
         refine ai (ae ?_)
         refine hK11 _ _ (aw (aB av) (ar O (.cons (.tmp O) .nil) O) (fun w' hM' hK' => ?_))
         exact ⟨hne (fun h => by subst h; simp at *), hK'⟩
        ·
         refine aq O O O O O O O (au (k := 56) O O (by kernel_rfl) O) ?_
         refine aq O O O O O O O (by first | exact al 0 O O O O (by kernel_rfl) | exact al 1 O O O O (by kernel_rfl)) ?_
         refine aq O O O O O O O (au (k := 56) O O (by kernel_rfl) O) ?_
         refine aq O O O O O O O (by first | exact al 0 O O O O (by kernel_rfl) | exact al 1 O O O O (by kernel_rfl)) ?_
         refine aq O O O O O O O (bl O O O) (aa O O O (aE O O O) ?_)
         refine aa O O O (af O O) (aR (d := 68) O (fun hg68 => ?_) (fun hg68 => ?_))
         ·
          refine ag O O O O O O O (ag O O O O O O O ?_)
          refine ag O O O O O O O (ag O O O O O O O ?_)
          refine ag O O O O O O O (aa O O O (aF O O O) ?_)
          refine aa O O O (af O O) (ag O O O O O O O ?_)
          refine ag O O O O O O O (ag O O O O O O O ?_)
          refine ag O O O O O O O (ag O O O O O O O ?_)
          refine aa O O O (aF O O O) (aa O O O (af O O) ?_)
          refine ag O O O O O O O (ag O O O O O O O ?_)
          refine ag O O O O O O O (ag O O O O O O O ?_)
          refine ag O O O O O O O (aa O O O (aF O O O) ?_)
          refine aa O O O (af O O) (ag O O O O O O O ?_)
          refine ag O O O O O O O (ag O O O O O O O ?_)
          refine ag O O O O O O O (ag O O O O O O O ?_)
          refine ag O O O O O O O (ag O O O O O O O ?_)
          refine aa O O O (aF O O O) (aa O O O (af O O) ?_)
          refine ag O O O O O O O (ag O O O O O O O ?_)
          refine ag O O O O O O O (ag O O O O O O O ?_)
          refine ag O O O O O O O (ag O O O O O O O ?_)
          refine ag O O O O O O O (aa O O O (aF O O O) ?_)
          refine ai (ae ?_)
          refine hK3 _ _ (bk O ?_)
          refine ah fun K12 hK12 => aj (aa O O O (ak O O) ?_)
          refine ai (ae ?_)
          refine hK12 _ _ (aw (aB av) (ar O (.cons (.tmp O) .nil) O) (fun w' hM' hK' => ?_))
          exact ⟨hne (fun h => by subst h; simp at *), hK'⟩
         ·
          refine aq O O O O O O O (au (k := 57) O O (by kernel_rfl) O) ?_
          refine aq O O O O O O O (by first | exact ay 0 (k := 16) O O O (by kernel_rfl) O (by kernel_rfl) | exact ay 1 (k := 16) O O O (by kernel_rfl) O (by kernel_rfl)) ?_
          refine aq O O O O O O O (au (k := 57) O O (by kernel_rfl) O) ?_
          refine aq O O O O O O O (by first | exact ay 0 (k := 16) O O O (by kernel_rfl) O (by kernel_rfl) | exact ay 1 (k := 16) O O O (by kernel_rfl) O (by kernel_rfl)) ?_
          refine aq O O O O O O O (SL.Pure.neB O O O Tryz.underlying22 Tryz.underlying5 (by kernel_rfl) (by kernel_rfl)) ?_
          refine aa O O O (aE O O O) (aa O O O (af O O) ?_)
          refine aR (d := 75) O (fun hg75 => ?_) (fun hg75 => ?_)
          ·
           refine ag O O O O O O O (ag O O O O O O O ?_)
           refine ag O O O O O O O (ag O O O O O O O ?_)
           refine ag O O O O O O O (aa O O O (aF O O O) ?_)
           refine aa O O O (af O O) (ag O O O O O O O ?_)
           refine ag O O O O O O O (ag O O O O O O O ?_)
           refine ag O O O O O O O (ag O O O O O O O ?_)
           refine aa O O O (aF O O O) (aa O O O (af O O) ?_)
           refine ag O O O O O O O (ag O O O O O O O ?_)
           refine ag O O O O O O O (ag O O O O O O O ?_)
           refine ag O O O O O O O (ag O O O O O O O ?_)
           refine ag O O O O O O O (aa O O O (aF O O O) ?_)
           refine aa O O O (af O O) (ag O O O O O O O ?_)
           refine ag O O O O O O O (ag O O O O O O O ?_)
           refine ag O O O O O O O (ag O O O O O O O ?_)
           refine ag O O O O O O O (ag O O O O O O O ?_)
           refine aa O O O (aF O O O) (ai ?_)
           refine ae (hK3 _ _ ?_)
           refine bk O (ah fun K13 hK13 => ?_)
           refine aj (aa O O O (ak O O) ?_)
           refine ai (ae ?_)
           refine hK13 _ _ (aw (aB av) (ar O (.cons (.tmp O) .nil) O) (fun w' hM' hK' => ?_))
           exact ⟨hne (fun h => by subst h; simp at *), hK'⟩
          ·
           refine aq O O O O O O O (au (k := 73) O O (by kernel_rfl) O) ?_
           refine aq O O O O O O O (by first | exact al 0 O O O O (by kernel_rfl) | exact al 1 O O O O (by kernel_rfl)) ?_
           refine aq O O O O O O O (au (k := 73) O O (by kernel_rfl) O) ?_
           refine aq O O O O O O O (by first | exact al 0 O O O O (by kernel_rfl) | exact al 1 O O O O (by kernel_rfl)) ?_
           refine aq O O O O O O O (bl O O O) (aa O O O (aE O O O) ?_)
           refine aa O O O (af O O) (aR (d := 82) O (fun hg82 => ?_) (fun hg82 => ?_))
           ·
            refine ag O O O O O O O (ag O O O O O O O ?_)
            refine ag O O O O O O O (ag O O O O O O O ?_)
            refine ag O O O O O O O (aa O O O (aF O O O) ?_)
            refine aa O O O (af O O) (ag O O O O O O O ?_)
            refine ag O O O O O O O (ag O O O O O O O ?_)
            refine ag O O O O O O O (ag O O O O O O O ?_)
            refine ag O O O O O O O (ag O O O O O O O ?_)
            refine aa O O O (aF O O O) (aa O O O (af O O) ?_)
            refine ag O O O O O O O (ag O O O O O O O ?_)
            refine ag O O O O O O O (ag O O O O O O O ?_)
            refine ag O O O O O O O (ag O O O O O O O ?_)
            refine ag O O O O O O O (aa O O O (aF O O O) ?_)
            refine ai (ae ?_)
            refine hK3 _ _ (bk O ?_)
            refine ah fun K14 hK14 => aj (aa O O O (ak O O) ?_)
            refine ai (ae ?_)
            refine hK14 _ _ (aw (aB av) (ar O (.cons (.tmp O) .nil) O) (fun w' hM' hK' => ?_))
            exact ⟨hne (fun h => by subst h; simp at *), hK'⟩
           ·
            refine aq O O O O O O O (au (k := 74) O O (by kernel_rfl) O) ?_
            refine aq O O O O O O O (by first | exact al 0 O O O O (by kernel_rfl) | exact al 1 O O O O (by kernel_rfl)) ?_
            refine aq O O O O O O O (au (k := 74) O O (by kernel_rfl) O) ?_
            refine aq O O O O O O O (by first | exact al 0 O O O O (by kernel_rfl) | exact al 1 O O O O (by kernel_rfl)) ?_
            refine aq O O O O O O O (SL.Pure.neS O O O) (aa O O O (aE O O O) ?_)
            refine aa O O O (af O O) (aR (d := 89) O (fun hg89 => ?_) (fun hg89 => ?_))
            ·
             refine ag O O O O O O O (ag O O O O O O O ?_)
             refine ag O O O O O O O (ag O O O O O O O ?_)
             refine ag O O O O O O O (ag O O O O O O O ?_)
             refine ag O O O O O O O (aa O O O (aF O O O) ?_)
             refine aa O O O (af O O) (ag O O O O O O O ?_)
             refine ag O O O O O O O (ag O O O O O O O ?_)
             refine ag O O O O O O O (ag O O O O O O O ?_)
             refine ag O O O O O O O (ag O O O O O O O ?_)
             refine aa O O O (aF O O O) (ai ?_)
             refine ae (hK3 _ _ ?_)
             refine bk O (ah fun K15 hK15 => ?_)
             refine aj (aa O O O (ak O O) ?_)
             refine ai (ae ?_)
             refine hK15 _ _ (aw (aB av) (ar O (.cons (.tmp O) .nil) O) (fun w' hM' hK' => ?_))
             exact ⟨hne (fun h => by subst h; simp at *), hK'⟩
            ·
             refine aq O O O O O O O (au (k := 18) O O (by kernel_rfl) O) ?_
             refine aq O O O O O O O (by first | exact al 0 O O O O (by kernel_rfl) | exact al 1 O O O O (by kernel_rfl)) ?_
             refine aq O O O O O O O (bw O O O Tryz.underlying23) (aq O O O O O O O (au (k := 18) O O (by kernel_rfl) O) ?_)
             refine aq O O O O O O O (by first | exact al 0 O O O O (by kernel_rfl) | exact al 1 O O O O (by kernel_rfl)) ?_
             refine aq O O O O O O O (bw O O O Tryz.underlying23) (aq O O O O O O O (bl O O O) ?_)
             refine aa O O O (aE O O O) (aa O O O (af O O) ?_)
             refine aR (d := 98) O (fun hg98 => ?_) (fun hg98 => ?_)
             ·
              refine ag O O O O O O O (ag O O O O O O O ?_)
              refine ag O O O O O O O (ag O O O O O O O ?_)
              refine ag O O O O O O O (ag O O O O O O O ?_)
              refine ag O O O O O O O (aa O O O (aF O O O) ?_)
              refine ai (ae ?_)
              refine hK3 _ _ (bk O ?_)
              refine ah fun K16 hK16 => aj (aa O O O (ak O O) ?_)
              refine ai (ae ?_)
              refine hK16 _ _ (aw (aB av) (ar O (.cons (.tmp O) .nil) O) (fun w' hM' hK' => ?_))
              exact ⟨hne (fun h => by subst h; simp at *), hK'⟩
             ·
              refine aq O O O O O O O (au (k := 20) O O (by kernel_rfl) O) ?_
              refine aq O O O O O O O (by first | exact al 0 O O O O (by kernel_rfl) | exact al 1 O O O O (by kernel_rfl)) ?_
              refine aq O O O O O O O (bw O O O Tryz.underlying24) (aq O O O O O O O (au (k := 20) O O (by kernel_rfl) O) ?_)
              refine aq O O O O O O O (by first | exact al 0 O O O O (by kernel_rfl) | exact al 1 O O O O (by kernel_rfl)) ?_
              refine aq O O O O O O O (bw O O O Tryz.underlying24) (aq O O O O O O O (bl O O O) ?_)
              refine aa O O O (aE O O O) (ai ?_)
              refine ae (hK3 _ _ ?_)
              refine aH O (fun hc106 => ?_) (fun hc106 => ?_)
              ·
               refine ah fun K17 hK17 => aj (aa O O O (ak O O) ?_)
               refine ai (ae ?_)
               refine hK17 _ _ (aw (aB av) (ar O (.cons (.tmp O) .nil) O) (fun w' hM' hK' => ?_))
               exact ⟨hne (fun h => by subst h; simp at *), hK'⟩
              ·
               have hgn : a.groups.length = b.groups.length := by simp at hg98; omega
               have hrn : a.refs.length = b.refs.length := by simp at hc106; omega
               have heq : a.name = b.name ∧ a.author = b.author ∧ a.date = b.date ∧ a.subj = b.subj ∧ a.sup = b.sup ∧ a.ctl = b.ctl ∧ a.dist = b.dist ∧ a.num = b.num ∧ a.height = b.height ∧ a.root = b.root ∧ a.leaf = b.leaf ∧ a.body = b.body := by simp at hg12 hg19 hg26 hg33 hg40 hg47 hg54 hg61 hg68 hg75 hg82 hg89; exact ⟨hg12, hg19, hg26, hg33, hg40, hg47, hg54, hg61, hg68, hg75, hg82, hg89⟩
               refine aC (ae ?_)
               refine hK2 _ _ (ah fun K18 hK18 => ?_)
               refine ah fun K19 hK19 => aj (aa O O O (ak O O) ?_)
               refine ai (ae ?_)
               refine hK19 _ _ (aK ?_)
               refine bu (X := Nat) (φ := fun i => i ≤ a.groups.length ∧ a.groups.take i = b.groups.take i) (L := fun i => [(2, .pointer (some ⟨b2, 0, none⟩)), (3, .pointer (some ⟨b3, 0, none⟩)), (5, .int .i64 i)]) (M := fun i => [.blk b3 (.cells (flat (cseg b ⟨qga, b.groups.length, qgc, qra, b.refs.length, qrc⟩)) 28 (0, 0)), .blk b2 (.cells (flat (cseg a ⟨pga, a.groups.length, pgc, pra, a.refs.length, prc⟩)) 28 (0, 0))]) (μ := fun i => a.groups.length - i) ?_ ?_
               ·
                exact fun _ _ st => ⟨0, ⟨Nat.zero_le _, by simp⟩, st.to [0, 1] ⟨rfl, rfl, rfl, trivial⟩ O rfl⟩
               ·
                intro i ⟨hi, htk⟩
                try dsimp only
                refine ah fun K20 hK20 => ah fun K21 hK21 => aj (aa O O O (af O O) ?_)
                refine aa O O O (au (k := 18) O O (by kernel_rfl) O) ?_
                refine aa O O O (by first | exact al 0 O O O O (by kernel_rfl) | exact al 1 O O O O (by kernel_rfl)) ?_
                refine aa O O O (bw O O O Tryz.underlying23) (aa O O O (aT O O O) ?_)
                refine ai (ae ?_)
                refine hK21 _ _ (aH O (fun hc111 => ?_) (fun hc111 => ?_))
                ·
                 have hlt : i < a.groups.length := by simp at hc111; omega
                 rcases hg3 with hg3 | ⟨gb, goff, rfl, hgb, hgcell⟩
                 ·
                  omega
                 rcases hg3' with hg3' | ⟨gb', goff', rfl, hgb', hgcell'⟩
                 ·
                  omega
                 have hx := hgcell i (str a.groups[i]) (by simp [hlt])
                 have hx' := hgcell' i (str b.groups[i]) (by simp [show i < b.groups.length by omega])
                 refine aC (ae ?_)
                 refine hK20 _ _ (ah fun K22 hK22 => ?_)
                 refine aK (ah fun K23 hK23 => ?_)
                 refine bX 10 mixed (by kernel_rfl) O O (fun wd6 => ?_)
                 refine aD O O O (au (k := 18) O O (by kernel_rfl) O) ?_
                 refine aD O O O (by first | exact al 0 O O O O (by kernel_rfl) | exact al 1 O O O O (by kernel_rfl)) ?_
                 refine aD O O O (af O O) (aD O O O (bx (sz := 1) (k := a.groups.length) (off' := goff + i) O O O Tryz.underlying23 (by kernel_rfl) (by omega) (by omega) (by omega)) ?_)
                 refine aD O O O (cj hgb (fun h => h) hx O O (by kernel_rfl)) ?_
                 refine aD O O O (au (k := 18) O O (by kernel_rfl) O) ?_
                 refine aD O O O (by first | exact al 0 O O O O (by kernel_rfl) | exact al 1 O O O O (by kernel_rfl)) ?_
                 refine aD O O O (af O O) (aD O O O (bx (sz := 1) (k := b.groups.length) (off' := goff' + i) O O O Tryz.underlying23 (by kernel_rfl) (by omega) (by omega) (by omega)) ?_)
                 refine aD O O O (cj hgb' (fun h => h) hx' O O (by kernel_rfl)) ?_
                 refine bV (aa O O O (SL.Pure.neS O O O) ?_)
                 refine ai (ae ?_)
                 refine hK23 _ _ (aH O (fun hc124 => ?_) (fun hc124 => ?_))
                 ·
                  have hd : ¬ a.groups[i] = b.groups[i] := by simpa using hc124
                  refine ah fun K24 hK24 => aj (aa O O O (ak O O) ?_)
                  refine ai (ae ?_)
                  refine hK24 _ _ (aw (aP (aB (aB (aP (aB av))))) (ar O (.cons (.tmp O) .nil) O) (fun w' hM' hK' => ?_))
                  exact ⟨hne (fun h => hd (by simp only [h])), hK'⟩
                 ·
                  have hd : a.groups[i] = b.groups[i] := by simpa using hc124
                  refine aC (aQ ?_)
                  refine ae (hK22 _ _ ?_)
                  refine aj (aa O O O (af O O) ?_)
                  refine aa O O O (aL O O O O (by omega) (by omega)) ?_
                  refine aa O O O (ak O O) (ai ?_)
                  refine ae ?_
                  exact bd (i + 1) [0, 1] ⟨by omega, by rw [List.take_succ_eq_append_getElem hlt, List.take_succ_eq_append_getElem (show i < b.groups.length by omega), htk, hd]⟩ (show a.groups.length - (i + 1) < a.groups.length - i by omega) ⟨rfl, rfl, rfl, trivial⟩ O rfl
                ·
                 have hie : i = a.groups.length := by simp at hc111; omega
                 have hgeq : a.groups = b.groups := by
                  subst hie
                  rw [List.take_length] at htk
                  rw [htk, hgn, List.take_length]
                 refine aU (aI ?_)
                 refine aI (aV ?_)
                 refine ae (hK18 _ _ ?_)
                 refine ah fun K25 hK25 => ah fun K26 hK26 => aj (aa O O O (ak O O) ?_)
                 refine ai (ae ?_)
                 refine hK26 _ _ (aK ?_)
                 refine bu (X := Nat) (φ := fun i => i ≤ a.refs.length ∧ a.refs.take i = b.refs.take i) (L := fun i => [(2, .pointer (some ⟨b2, 0, none⟩)), (3, .pointer (some ⟨b3, 0, none⟩)), (6, .int .i64 i)]) (M := fun i => [.blk b3 (.cells (flat (cseg b ⟨qga, b.groups.length, qgc, qra, b.refs.length, qrc⟩)) 28 (0, 0)), .blk b2 (.cells (flat (cseg a ⟨pga, a.groups.length, pgc, pra, a.refs.length, prc⟩)) 28 (0, 0))]) (μ := fun i => a.refs.length - i) ?_ ?_
                 ·
                  exact fun _ _ st => ⟨0, ⟨Nat.zero_le _, by simp⟩, st.to [0, 1] ⟨rfl, rfl, rfl, trivial⟩ O rfl⟩
                 ·
                  intro j ⟨hj, htj⟩
                  try dsimp only
                  refine ah fun K27 hK27 => ah fun K28 hK28 => aj (aa O O O (af O O) ?_)
                  refine aa O O O (au (k := 20) O O (by kernel_rfl) O) ?_
                  refine aa O O O (by first | exact al 0 O O O O (by kernel_rfl) | exact al 1 O O O O (by kernel_rfl)) ?_
                  refine aa O O O (bw O O O Tryz.underlying24) (aa O O O (aT O O O) ?_)
                  refine ai (ae ?_)
                  refine hK28 _ _ (aH O (fun hc129 => ?_) (fun hc129 => ?_))
                  ·
                   have hlt : j < a.refs.length := by simp at hc129; omega
                   rcases hr3 with hr3 | ⟨rb, roff, rfl, hrb, hrcell⟩
                   ·
                    omega
                   rcases hr3' with hr3' | ⟨rb', roff', rfl, hrb', hrcell'⟩
                   ·
                    omega
                   have hx := RC.id hrcell (List.getElem?_eq_getElem hlt)
                   have hx' := RC.id hrcell' (List.getElem?_eq_getElem (show j < b.refs.length by omega))
                   refine aC (ae ?_)
                   refine hK27 _ _ (ah fun K29 hK29 => ?_)
                   refine aK (ah fun K30 hK30 => ?_)
                   refine bX 10 mixed (by kernel_rfl) O O (fun wd11 => ?_)
                   refine aD O O O (au (k := 20) O O (by kernel_rfl) O) ?_
                   refine aD O O O (by first | exact al 0 O O O O (by kernel_rfl) | exact al 1 O O O O (by kernel_rfl)) ?_
                   refine aD O O O (af O O) (aD O O O (bx (sz := 32) (k := a.refs.length) (off' := roff + j * 32) O O O Tryz.underlying24 (by kernel_rfl) (by omega) (by omega) (by omega)) ?_)
                   refine aD O O O (SL.Pure.loadOR (k := 32) hx hrb (fun h => h) O O (by kernel_rfl) O (by kernel_rfl)) ?_
                   refine aD O O O (au (k := 20) O O (by kernel_rfl) O) ?_
                   refine aD O O O (by first | exact al 0 O O O O (by kernel_rfl) | exact al 1 O O O O (by kernel_rfl)) ?_
                   refine aD O O O (af O O) (aD O O O (bx (sz := 32) (k := b.refs.length) (off' := roff' + j * 32) O O O Tryz.underlying24 (by kernel_rfl) (by omega) (by omega) (by omega)) ?_)
                   refine aD O O O (SL.Pure.loadOR (k := 32) hx' hrb' (fun h => h) O O (by kernel_rfl) O (by kernel_rfl)) ?_
                   refine bV (aa O O O (SL.Pure.neB O O O Tryz.underlying26 Tryz.underlying5 (by kernel_rfl) (by kernel_rfl)) ?_)
                   refine ai (ae ?_)
                   refine hK30 _ _ (aH O (fun hc142 => ?_) (fun hc142 => ?_))
                   ·
                    have hd : ¬ a.refs[j] = b.refs[j] := by simpa using hc142
                    refine ah fun K31 hK31 => aj (aa O O O (ak O O) ?_)
                    refine ai (ae ?_)
                    refine hK31 _ _ (aw (aP (aB (aB (aP (aB av))))) (ar O (.cons (.tmp O) .nil) O) (fun w' hM' hK' => ?_))
                    exact ⟨hne (fun h => hd (by simp only [h])), hK'⟩
                   ·
                    have hd : a.refs[j] = b.refs[j] := by simpa using hc142
                    refine aC (aQ ?_)
                    refine ae (hK29 _ _ ?_)
                    refine aj (aa O O O (af O O) ?_)
                    refine aa O O O (aL O O O O (by omega) (by omega)) ?_
                    refine aa O O O (ak O O) (ai ?_)
                    refine ae ?_
                    exact bd (j + 1) [0, 1] ⟨by omega, by rw [List.take_succ_eq_append_getElem hlt, List.take_succ_eq_append_getElem (show j < b.refs.length by omega), htj, hd]⟩ (show a.refs.length - (j + 1) < a.refs.length - j by omega) ⟨rfl, rfl, rfl, trivial⟩ O rfl
                  ·
                   have hje : j = a.refs.length := by simp at hc129; omega
                   have hreq : a.refs = b.refs := by
                    subst hje
                    rw [List.take_length] at htj
                    rw [htj, hrn, List.take_length]
                   have hab : a = b := by
                    obtain ⟨a1, a2, a3, a4, a5, a6, a7, a8, a9, a10, a11, a12, a13, a14⟩ := a
                    obtain ⟨b1, b2, b3, b4, b5, b6, b7, b8, b9, b10, b11, b12, b13, b14⟩ := b
                    dsimp only at heq hgeq hreq
                    obtain ⟨e1, e2, e3, e5, e7, e8, e9, e10, e11, e12, e13, e14⟩ := heq
                    subst e1 e2 e3 e5 e7 e8 e9 e10 e11 e12 e13 e14 hgeq hreq
                    rfl
                   refine aU (aI ?_)
                   refine aI (aV ?_)
                   refine ae (hK25 _ _ ?_)
                   refine ah fun K32 hK32 => aj (aa O O O (ak O O) ?_)
                   refine ai (ae ?_)
                   refine hK32 _ _ (aw av (ar O (.cons (.tmp O) .nil) O) (fun w' hM' hK' => ?_))
                   exact ⟨by rw [decide_eq_true hab]; rfl, hK'⟩
end Go.Proofs.YthfhhkanpnemcaaGreatDoor
