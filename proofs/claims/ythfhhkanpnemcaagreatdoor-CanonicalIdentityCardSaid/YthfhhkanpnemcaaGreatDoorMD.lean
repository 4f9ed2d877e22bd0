/- Contents: Equal, Clone. The example of the document: closed values. Contents: what Own returns is not nil; clones that may be written. Contents: Collision; the document's example, walked; what fits. What fits. -/
import Derived.Test.YthfhhkanpnemcaaGreatDoorMC
import Derived.Test.YthfhhkanpnemcaaGreatDoorM6
import Derived.KernelRfl
import Derived.Test.YthfhhkanpnemcaaGreatDoorM2
namespace Go.Proofs.YthfhhkanpnemcaaGreatDoor
open Go.SL Go.RowKit IntWalk
set_option linter.unusedVariables false
set_option maxRecDepth 100000
set_option linter.unusedSimpArgs false
set_option maxHeartbeats 2000000

theorem con_ext {a b : Con} (h1 : a.name = b.name) (h2 : a.author = b.author) (h3 : a.date = b.date) (h4 : a.groups = b.groups) (h5 : a.subj = b.subj) (h6 : a.refs = b.refs) (h7 : a.sup = b.sup) (h8 : a.ctl = b.ctl) (h9 : a.dist = b.dist) (h10 : a.num = b.num) (h11 : a.height = b.height ∧ a.root = b.root) (h12 : a.leaf = b.leaf) (h13 : a.body = b.body) : a = b := by
 cases a; cases b
 simp only at h1 h2 h3 h4 h5 h6 h7 h8 h9 h10 h11 h12 h13
 obtain ⟨h11, h11'⟩ := h11
 subst h1 h2 h3 h4 h5 h6 h7 h8 h9 h10 h11 h11' h12 h13
 rfl

theorem cequal_c (a b : Con) (p q : CAt) (w : World) (hA : CRd w a p) (hB : CRd w b q) :
  Calls Tryz.prog 9 [.agg (flat (cseg a p)), .agg (flat (cseg b q))].toArray w fun e w' => e = .returned (.bool (decide (a = b))) ∧ Keeps none1 w w' := by
 have hne : a ≠ b → Ending.returned (.bool false) = Ending.returned (.bool (decide (a = b))) := fun h => by rw [decide_eq_false h]
 refine aJ (n := 94) (W := SL.none1) (m := []) Tryz.func9 O Tryz.ntmps9 O (aO _ _ _) ?_
 simp only [SL.enum, Nat.reduceAdd]
 refine ah fun K1 hK1 => aj (am O (bh _ O O O O O) ?_)
 intro b2 _
 try simp only [setN, putD, selM, nth, cw, cx]
 refine am O (bh _ O O O O O) ?_
 intro b3 _
 try simp only [setN, putD, selM, nth, cw, cx]
 refine aa O O O (ak O O) (ai ?_)
 refine ae (hK1 _ _ ?_)
 refine ah fun K2 hK2 => aj (aa O O O (au (k := 0) O O (by kernel_rfl) O) ?_)
 refine aa O O O (by first | exact al 0 O O O O (by kernel_rfl) | exact al 1 O O O O (by kernel_rfl)) ?_
 refine aa O O O (au (k := 0) O O (by kernel_rfl) O) ?_
 refine aa O O O (by first | exact al 0 O O O O (by kernel_rfl) | exact al 1 O O O O (by kernel_rfl)) ?_
 refine aa O O O (SL.Pure.eqS O O O) (aa O O O (af O O) ?_)
 refine aR (d := 10) O (fun hg10 => ?_) (fun hg10 => ?_)
 ·
  have h_name : a.name = b.name := by simpa using hg10
  refine aq O O O O O O O (au (k := 1) O O (by kernel_rfl) O) ?_
  refine aq O O O O O O O (by first | exact ay 0 (k := 16) O O O (by kernel_rfl) O (by kernel_rfl) | exact ay 1 (k := 16) O O O (by kernel_rfl) O (by kernel_rfl)) ?_
  refine aq O O O O O O O (au (k := 1) O O (by kernel_rfl) O) ?_
  refine aq O O O O O O O (by first | exact ay 0 (k := 16) O O O (by kernel_rfl) O (by kernel_rfl) | exact ay 1 (k := 16) O O O (by kernel_rfl) O (by kernel_rfl)) ?_
  refine aq O O O O O O O (SL.Pure.eqB O O O Tryz.underlying33 Tryz.underlying5 (by kernel_rfl) (by kernel_rfl)) ?_
  refine aa O O O (aF O O O) (aa O O O (af O O) ?_)
  refine aR (d := 17) O (fun hg17 => ?_) (fun hg17 => ?_)
  ·
   have h_au : a.author = b.author := by simpa using hg17
   refine aq O O O O O O O (au (k := 17) O O (by kernel_rfl) O) ?_
   refine aq O O O O O O O (by first | exact al 0 O O O O (by kernel_rfl) | exact al 1 O O O O (by kernel_rfl)) ?_
   refine aq O O O O O O O (au (k := 17) O O (by kernel_rfl) O) ?_
   refine aq O O O O O O O (by first | exact al 0 O O O O (by kernel_rfl) | exact al 1 O O O O (by kernel_rfl)) ?_
   refine aq O O O O O O O (bt O O O) (aa O O O (aF O O O) ?_)
   refine aa O O O (af O O) (aR (d := 24) O (fun hg24 => ?_) (fun hg24 => ?_))
   ·
    have h_date : a.date = b.date := by simpa using hg24
    refine aq O O O O O O O (au (k := 18) O O (by kernel_rfl) O) ?_
    refine aq O O O O O O O (by first | exact al 0 O O O O (by kernel_rfl) | exact al 1 O O O O (by kernel_rfl)) ?_
    refine aq O O O O O O O (au (k := 18) O O (by kernel_rfl) O) ?_
    refine aq O O O O O O O (by first | exact al 0 O O O O (by kernel_rfl) | exact al 1 O O O O (by kernel_rfl)) ?_
    refine SL.Ok.effG O O O O O (aN O O (by kernel_rfl) O O (fun w hM hK => sEqual_c a.groups b.groups p.ga q.ga p.gl p.gc q.gl q.gc w (hA.1.keep hK) (hB.1.keep hK))) ?_
    intro _ _
    simp only [setN, putD, selM, nth, cw, cx]
    refine aa O O O (aF O O O) (aa O O O (af O O) ?_)
    refine aR (d := 31) O (fun hg31 => ?_) (fun hg31 => ?_)
    ·
     have h_grp : a.groups = b.groups := by simpa using hg31
     refine aq O O O O O O O (au (k := 19) O O (by kernel_rfl) O) ?_
     refine aq O O O O O O O (by first | exact al 0 O O O O (by kernel_rfl) | exact al 1 O O O O (by kernel_rfl)) ?_
     refine aq O O O O O O O (au (k := 19) O O (by kernel_rfl) O) ?_
     refine aq O O O O O O O (by first | exact al 0 O O O O (by kernel_rfl) | exact al 1 O O O O (by kernel_rfl)) ?_
     refine aq O O O O O O O (SL.Pure.eqS O O O) (aa O O O (aF O O O) ?_)
     refine aa O O O (af O O) (aR (d := 38) O (fun hg38 => ?_) (fun hg38 => ?_))
     ·
      have h_subj : a.subj = b.subj := by simpa using hg38
      refine aq O O O O O O O (au (k := 20) O O (by kernel_rfl) O) ?_
      refine aq O O O O O O O (by first | exact al 0 O O O O (by kernel_rfl) | exact al 1 O O O O (by kernel_rfl)) ?_
      refine aq O O O O O O O (au (k := 20) O O (by kernel_rfl) O) ?_
      refine aq O O O O O O O (by first | exact al 0 O O O O (by kernel_rfl) | exact al 1 O O O O (by kernel_rfl)) ?_
      refine SL.Ok.effG O O O O O (aN O O (by kernel_rfl) O O (fun w hM hK => iEqual_c a.refs b.refs p.ra q.ra p.rl p.rc q.rl q.rc hA.2.2.2 hB.2.2.2 w (hA.2.1.keep hK) (hB.2.1.keep hK))) ?_
      intro _ _
      simp only [setN, putD, selM, nth, cw, cx]
      refine aa O O O (aF O O O) (aa O O O (af O O) ?_)
      refine aR (d := 45) O (fun hg45 => ?_) (fun hg45 => ?_)
      ·
       have h_refs : a.refs = b.refs := by simpa using hg45
       refine aq O O O O O O O (au (k := 21) O O (by kernel_rfl) O) ?_
       refine aq O O O O O O O (by first | exact ay 0 (k := 32) O O O (by kernel_rfl) O (by kernel_rfl) | exact ay 1 (k := 32) O O O (by kernel_rfl) O (by kernel_rfl)) ?_
       refine aq O O O O O O O (au (k := 21) O O (by kernel_rfl) O) ?_
       refine aq O O O O O O O (by first | exact ay 0 (k := 32) O O O (by kernel_rfl) O (by kernel_rfl) | exact ay 1 (k := 32) O O O (by kernel_rfl) O (by kernel_rfl)) ?_
       refine aq O O O O O O O (SL.Pure.eqB O O O Tryz.underlying26 Tryz.underlying5 (by kernel_rfl) (by kernel_rfl)) ?_
       refine aa O O O (aF O O O) (aa O O O (af O O) ?_)
       refine aR (d := 52) O (fun hg52 => ?_) (fun hg52 => ?_)
       ·
        have h_sup : a.sup = b.sup := by simpa using hg52
        refine aq O O O O O O O (au (k := 53) O O (by kernel_rfl) O) ?_
        refine aq O O O O O O O (by first | exact al 0 O O O O (by kernel_rfl) | exact al 1 O O O O (by kernel_rfl)) ?_
        refine aq O O O O O O O (au (k := 53) O O (by kernel_rfl) O) ?_
        refine aq O O O O O O O (by first | exact al 0 O O O O (by kernel_rfl) | exact al 1 O O O O (by kernel_rfl)) ?_
        refine aq O O O O O O O (SL.Pure.eqS O O O) (aa O O O (aF O O O) ?_)
        refine aa O O O (af O O) (aR (d := 59) O (fun hg59 => ?_) (fun hg59 => ?_))
        ·
         have h_ctl : a.ctl = b.ctl := by simpa using hg59
         refine aq O O O O O O O (au (k := 54) O O (by kernel_rfl) O) ?_
         refine aq O O O O O O O (by first | exact al 0 O O O O (by kernel_rfl) | exact al 1 O O O O (by kernel_rfl)) ?_
         refine aq O O O O O O O (au (k := 54) O O (by kernel_rfl) O) ?_
         refine aq O O O O O O O (by first | exact al 0 O O O O (by kernel_rfl) | exact al 1 O O O O (by kernel_rfl)) ?_
         refine aq O O O O O O O (SL.Pure.eqS O O O) (aa O O O (aF O O O) ?_)
         refine aa O O O (af O O) (aR (d := 66) O (fun hg66 => ?_) (fun hg66 => ?_))
         ·
          have h_dist : a.dist = b.dist := by simpa using hg66
          refine aq O O O O O O O (au (k := 55) O O (by kernel_rfl) O) ?_
          refine aq O O O O O O O (by first | exact al 0 O O O O (by kernel_rfl) | exact al 1 O O O O (by kernel_rfl)) ?_
          refine aq O O O O O O O (au (k := 55) O O (by kernel_rfl) O) ?_
          refine aq O O O O O O O (by first | exact al 0 O O O O (by kernel_rfl) | exact al 1 O O O O (by kernel_rfl)) ?_
          refine aq O O O O O O O (bt O O O) (aa O O O (aF O O O) ?_)
          refine aa O O O (af O O) (aR (d := 73) O (fun hg73 => ?_) (fun hg73 => ?_))
          ·
           have h_num : a.num = b.num := by simpa using hg73
           refine aq O O O O O O O (au (k := 56) O O (by kernel_rfl) O) ?_
           refine aq O O O O O O O (by first | exact ay 0 (k := 17) O O O (by kernel_rfl) O (by kernel_rfl) | exact ay 1 (k := 17) O O O (by kernel_rfl) O (by kernel_rfl)) ?_
           refine aq O O O O O O O (au (k := 56) O O (by kernel_rfl) O) ?_
           refine aq O O O O O O O (by first | exact ay 0 (k := 17) O O O (by kernel_rfl) O (by kernel_rfl) | exact ay 1 (k := 17) O O O (by kernel_rfl) O (by kernel_rfl)) ?_
           refine aq O O O O O O O (SL.Pure.eqAgg (r := decide (a.height = b.height ∧ a.root = b.root)) O O O (by kernel_rfl) (fun w => pubEq_run _ _ _ _ w)) ?_
           refine aa O O O (aF O O O) (aa O O O (af O O) ?_)
           refine aR (d := 80) O (fun hg80 => ?_) (fun hg80 => ?_)
           ·
            have h_pub : a.height = b.height ∧ a.root = b.root := by simpa using hg80
            refine aq O O O O O O O (au (k := 73) O O (by kernel_rfl) O) ?_
            refine aq O O O O O O O (by first | exact al 0 O O O O (by kernel_rfl) | exact al 1 O O O O (by kernel_rfl)) ?_
            refine aq O O O O O O O (au (k := 73) O O (by kernel_rfl) O) ?_
            refine aq O O O O O O O (by first | exact al 0 O O O O (by kernel_rfl) | exact al 1 O O O O (by kernel_rfl)) ?_
            refine aq O O O O O O O (bt O O O) (aa O O O (aF O O O) ?_)
            refine aa O O O (af O O) (aR (d := 87) O (fun hg87 => ?_) (fun hg87 => ?_))
            ·
             have h_leaf : a.leaf = b.leaf := by simpa using hg87
             refine aq O O O O O O O (au (k := 74) O O (by kernel_rfl) O) ?_
             refine aq O O O O O O O (by first | exact al 0 O O O O (by kernel_rfl) | exact al 1 O O O O (by kernel_rfl)) ?_
             refine aq O O O O O O O (au (k := 74) O O (by kernel_rfl) O) ?_
             refine aq O O O O O O O (by first | exact al 0 O O O O (by kernel_rfl) | exact al 1 O O O O (by kernel_rfl)) ?_
             refine aq O O O O O O O (SL.Pure.eqS O O O) (aa O O O (aF O O O) ?_)
             refine aa O O O (ak O O) (ai ?_)
             refine ae (hK2 _ _ ?_)
             refine aw av (ar O (.cons (.tmp O) .nil) O) (fun w' hM' hK' => ?_)
             exact ⟨bj (by rw [decide_eq_true_eq, decide_eq_true_eq]; exact ⟨fun hb => con_ext h_name h_au h_date h_grp h_subj h_refs h_sup h_ctl h_dist h_num h_pub h_leaf hb, fun h => by rw [h]⟩), hK'⟩
            ·
             have h_leaf : ¬ (a.leaf = b.leaf) := by simpa using hg87
             refine ag O O O O O O O (ag O O O O O O O ?_)
             refine ag O O O O O O O (ag O O O O O O O ?_)
             refine ag O O O O O O O (aa O O O (aE O O O) ?_)
             refine aa O O O (ak O O) (ai ?_)
             refine ae (hK2 _ _ ?_)
             refine aw av (ar O (.cons (.tmp O) .nil) O) (fun w' hM' hK' => ?_)
             exact ⟨hne (fun h => h_leaf (by rw [h])), hK'⟩
           ·
            have h_pub : ¬ (a.height = b.height ∧ a.root = b.root) := by simpa using hg80
            refine ag O O O O O O O (ag O O O O O O O ?_)
            refine ag O O O O O O O (ag O O O O O O O ?_)
            refine ag O O O O O O O (aa O O O (aE O O O) ?_)
            refine aa O O O (af O O) (ag O O O O O O O ?_)
            refine ag O O O O O O O (ag O O O O O O O ?_)
            refine ag O O O O O O O (ag O O O O O O O ?_)
            refine aa O O O (aE O O O) (aa O O O (ak O O) ?_)
            refine ai (ae ?_)
            refine hK2 _ _ (aw av (ar O (.cons (.tmp O) .nil) O) (fun w' hM' hK' => ?_))
            exact ⟨hne (fun h => h_pub (by rw [h]; exact ⟨rfl, rfl⟩)), hK'⟩
          ·
           have h_num : ¬ (a.num = b.num) := by simpa using hg73
           refine ag O O O O O O O (ag O O O O O O O ?_)
           refine ag O O O O O O O (ag O O O O O O O ?_)
           refine ag O O O O O O O (aa O O O (aE O O O) ?_)
           refine aa O O O (af O O) (ag O O O O O O O ?_)
           refine ag O O O O O O O (ag O O O O O O O ?_)
           refine ag O O O O O O O (ag O O O O O O O ?_)
           refine aa O O O (aE O O O) (aa O O O (af O O) ?_)
           refine ag O O O O O O O (ag O O O O O O O ?_)
           refine ag O O O O O O O (ag O O O O O O O ?_)
           refine ag O O O O O O O (aa O O O (aE O O O) ?_)
           refine aa O O O (ak O O) (ai ?_)
           refine ae (hK2 _ _ ?_)
           refine aw av (ar O (.cons (.tmp O) .nil) O) (fun w' hM' hK' => ?_)
           exact ⟨hne (fun h => h_num (by rw [h])), hK'⟩
         ·
          have h_dist : ¬ (a.dist = b.dist) := by simpa using hg66
          refine ag O O O O O O O (ag O O O O O O O ?_)
          refine ag O O O O O O O (ag O O O O O O O ?_)
          refine ag O O O O O O O (aa O O O (aE O O O) ?_)
          refine aa O O O (af O O) (ag O O O O O O O ?_)
          refine ag O O O O O O O (ag O O O O O O O ?_)
          refine ag O O O O O O O (ag O O O O O O O ?_)
          refine aa O O O (aE O O O) (aa O O O (af O O) ?_)
          refine ag O O O O O O O (ag O O O O O O O ?_)
          refine ag O O O O O O O (ag O O O O O O O ?_)
          refine ag O O O O O O O (aa O O O (aE O O O) ?_)
          refine aa O O O (af O O) (ag O O O O O O O ?_)
          refine ag O O O O O O O (ag O O O O O O O ?_)
          refine ag O O O O O O O (ag O O O O O O O ?_)
          refine aa O O O (aE O O O) (aa O O O (ak O O) ?_)
          refine ai (ae ?_)
          refine hK2 _ _ (aw av (ar O (.cons (.tmp O) .nil) O) (fun w' hM' hK' => ?_))
          exact ⟨hne (fun h => h_dist (by rw [h])), hK'⟩
        ·
         have h_ctl : ¬ (a.ctl = b.ctl) := by simpa using hg59
         refine ag O O O O O O O (ag O O O O O O O ?_)
         refine ag O O O O O O O (ag O O O O O O O ?_)
         refine ag O O O O O O O (aa O O O (aE O O O) ?_)
         refine aa O O O (af O O) (ag O O O O O O O ?_)
         refine ag O O O O O O O (ag O O O O O O O ?_)
         refine ag O O O O O O O (ag O O O O O O O ?_)
         refine aa O O O (aE O O O) (aa O O O (af O O) ?_)
         refine ag O O O O O O O (ag O O O O O O O ?_)
         refine ag O O O O O O O (ag O O O O O O O ?_)
         refine ag O O O O O O O (aa O O O (aE O O O) ?_)
         refine aa O O O (af O O) (ag O O O O O O O ?_)
         refine ag O O O O O O O (ag O O O O O O O ?_)
         refine ag O O O O O O O (ag O O O O O O O ?_)
         refine aa O O O (aE O O O) (aa O O O (af O O) ?_)
         refine ag O O O O O O O (ag O O O O O O O ?_)
         refine ag O O O O O O O (ag O O O O O O O ?_)
         refine ag O O O O O O O (aa O O O (aE O O O) ?_)
         refine aa O O O (ak O O) (ai ?_)
         refine ae (hK2 _ _ ?_)
         refine aw av (ar O (.cons (.tmp O) .nil) O) (fun w' hM' hK' => ?_)
         exact ⟨hne (fun h => h_ctl (by rw [h])), hK'⟩
       ·
        have h_sup : ¬ (a.sup = b.sup) := by simpa using hg52
        refine ag O O O O O O O (ag O O O O O O O ?_)
        refine ag O O O O O O O (ag O O O O O O O ?_)
        refine ag O O O O O O O (aa O O O (aE O O O) ?_)
        refine aa O O O (af O O) (ag O O O O O O O ?_)
        refine ag O O O O O O O (ag O O O O O O O ?_)
        refine ag O O O O O O O (ag O O O O O O O ?_)
        refine aa O O O (aE O O O) (aa O O O (af O O) ?_)
        refine ag O O O O O O O (ag O O O O O O O ?_)
        refine ag O O O O O O O (ag O O O O O O O ?_)
        refine ag O O O O O O O (aa O O O (aE O O O) ?_)
        refine aa O O O (af O O) (ag O O O O O O O ?_)
        refine ag O O O O O O O (ag O O O O O O O ?_)
        refine ag O O O O O O O (ag O O O O O O O ?_)
        refine aa O O O (aE O O O) (aa O O O (af O O) ?_)
        refine ag O O O O O O O (ag O O O O O O O ?_)
        refine ag O O O O O O O (ag O O O O O O O ?_)
        refine ag O O O O O O O (aa O O O (aE O O O) ?_)
        refine aa O O O (af O O) (ag O O O O O O O ?_)
        refine ag O O O O O O O (ag O O O O O O O ?_)
        refine ag O O O O O O O (ag O O O O O O O ?_)
        refine aa O O O (aE O O O) (aa O O O (ak O O) ?_)
        refine ai (ae ?_)
        refine hK2 _ _ (aw av (ar O (.cons (.tmp O) .nil) O) (fun w' hM' hK' => ?_))
        exact ⟨hne (fun h => h_sup (by rw [h])), hK'⟩
      ·
       have h_refs : ¬ (a.refs = b.refs) := by simpa using hg45
       refine ag O O O O O O O (ag O O O O O O O ?_)
       refine ag O O O O O O O (ag O O O O O O O ?_)
       refine ag O O O O O O O (aa O O O (aE O O O) ?_)
       refine aa O O O (af O O) (ag O O O O O O O ?_)
       refine ag O O O O O O O (ag O O O O O O O ?_)
       refine ag O O O O O O O (ag O O O O O O O ?_)
       refine aa O O O (aE O O O) (aa O O O (af O O) ?_)
       refine ag O O O O O O O (ag O O O O O O O ?_)
       refine ag O O O O O O O (ag O O O O O O O ?_)
       refine ag O O O O O O O (aa O O O (aE O O O) ?_)
       refine aa O O O (af O O) (ag O O O O O O O ?_)
       refine ag O O O O O O O (ag O O O O O O O ?_)
       refine ag O O O O O O O (ag O O O O O O O ?_)
       refine aa O O O (aE O O O) (aa O O O (af O O) ?_)
       refine ag O O O O O O O (ag O O O O O O O ?_)
       refine ag O O O O O O O (ag O O O O O O O ?_)
       refine ag O O O O O O O (aa O O O (aE O O O) ?_)
       refine aa O O O (af O O) (ag O O O O O O O ?_)
       refine ag O O O O O O O (ag O O O O O O O ?_)
       refine ag O O O O O O O (ag O O O O O O O ?_)
       refine aa O O O (aE O O O) (aa O O O (af O O) ?_)
       refine ag O O O O O O O (ag O O O O O O O ?_)
       refine ag O O O O O O O (ag O O O O O O O ?_)
       refine ag O O O O O O O (aa O O O (aE O O O) ?_)
       refine aa O O O (ak O O) (ai ?_)
       refine ae (hK2 _ _ ?_)
       refine aw av (ar O (.cons (.tmp O) .nil) O) (fun w' hM' hK' => ?_)
       exact ⟨hne (fun h => h_refs (by rw [h])), hK'⟩
     ·
      have h_subj : ¬ (a.subj = b.subj) := by simpa using hg38
      refine ag O O O O O O O (ag O O O O O O O ?_)
      refine ag O O O O O O O (ag O O O O O O O ?_)
      refine ag O O O O O O O (aa O O O (aE O O O) ?_)
      refine aa O O O (af O O) (ag O O O O O O O ?_)
      refine ag O O O O O O O (ag O O O O O O O ?_)
      refine ag O O O O O O O (ag O O O O O O O ?_)
      refine aa O O O (aE O O O) (aa O O O (af O O) ?_)
      refine ag O O O O O O O (ag O O O O O O O ?_)
      refine ag O O O O O O O (ag O O O O O O O ?_)
      refine ag O O O O O O O (aa O O O (aE O O O) ?_)
      refine aa O O O (af O O) (ag O O O O O O O ?_)
      refine ag O O O O O O O (ag O O O O O O O ?_)
      refine ag O O O O O O O (ag O O O O O O O ?_)
      refine aa O O O (aE O O O) (aa O O O (af O O) ?_)
      refine ag O O O O O O O (ag O O O O O O O ?_)
      refine ag O O O O O O O (ag O O O O O O O ?_)
      refine ag O O O O O O O (aa O O O (aE O O O) ?_)
      refine aa O O O (af O O) (ag O O O O O O O ?_)
      refine ag O O O O O O O (ag O O O O O O O ?_)
      refine ag O O O O O O O (ag O O O O O O O ?_)
      refine aa O O O (aE O O O) (aa O O O (af O O) ?_)
      refine ag O O O O O O O (ag O O O O O O O ?_)
      refine ag O O O O O O O (ag O O O O O O O ?_)
      refine ag O O O O O O O (aa O O O (aE O O O) ?_)
      refine aa O O O (af O O) (ag O O O O O O O ?_)
      refine ag O O O O O O O (ag O O O O O O O ?_)
      refine ag O O O O O O O (ag O O O O O O O ?_)
      refine aa O O O (aE O O O) (aa O O O (ak O O) ?_)
      refine ai (ae ?_)
      refine hK2 _ _ (aw av (ar O (.cons (.tmp O) .nil) O) (fun w' hM' hK' => ?_))
      exact ⟨hne (fun h => h_subj (by rw [h])), hK'⟩
    ·
     have h_grp : ¬ (a.groups = b.groups) := by simpa using hg31
     refine ag O O O O O O O (ag O O O O O O O ?_)
     refine ag O O O O O O O (ag O O O O O O O ?_)
     refine ag O O O O O O O (aa O O O (aE O O O) ?_)
     refine aa O O O (af O O) (ag O O O O O O O ?_)
     refine ag O O O O O O O (ag O O O O O O O ?_)
     refine ag O O O O O O O (ag O O O O O O O ?_)
     refine aa O O O (aE O O O) (aa O O O (af O O) ?_)
     refine ag O O O O O O O (ag O O O O O O O ?_)
     refine ag O O O O O O O (ag O O O O O O O ?_)
     refine ag O O O O O O O (aa O O O (aE O O O) ?_)
     refine aa O O O (af O O) (ag O O O O O O O ?_)
     refine ag O O O O O O O (ag O O O O O O O ?_)
     refine ag O O O O O O O (ag O O O O O O O ?_)
     refine aa O O O (aE O O O) (aa O O O (af O O) ?_)
     refine ag O O O O O O O (ag O O O O O O O ?_)
     refine ag O O O O O O O (ag O O O O O O O ?_)
     refine ag O O O O O O O (aa O O O (aE O O O) ?_)
     refine aa O O O (af O O) (ag O O O O O O O ?_)
     refine ag O O O O O O O (ag O O O O O O O ?_)
     refine ag O O O O O O O (ag O O O O O O O ?_)
     refine aa O O O (aE O O O) (aa O O O (af O O) ?_)
     refine ag O O O O O O O (ag O O O O O O O ?_)
     refine ag O O O O O O O (ag O O O O O O O ?_)
     refine ag O O O O O O O (aa O O O (aE O O O) ?_)
     refine aa O O O (af O O) (ag O O O O O O O ?_)
     refine ag O O O O O O O (ag O O O O O O O ?_)
     refine ag O O O O O O O (ag O O O O O O O ?_)
     refine aa O O O (aE O O O) (aa O O O (af O O) ?_)
     refine ag O O O O O O O (ag O O O O O O O ?_)
     refine ag O O O O O O O (ag O O O O O O O ?_)
     refine ag O O O O O O O (aa O O O (aE O O O) ?_)
     refine aa O O O (ak O O) (ai ?_)
     refine ae (hK2 _ _ ?_)
     refine aw av (ar O (.cons (.tmp O) .nil) O) (fun w' hM' hK' => ?_)
     exact ⟨hne (fun h => h_grp (by rw [h])), hK'⟩
   ·
    have h_date : ¬ (a.date = b.date) := by simpa using hg24
    refine ag O O O O O O O (ag O O O O O O O ?_)
    refine ag O O O O O O O (ag O O O O O O O ?_)
    refine ag O O O O O O O (aa O O O (aE O O O) ?_)
    refine aa O O O (af O O) (ag O O O O O O O ?_)
    refine ag O O O O O O O (ag O O O O O O O ?_)
    refine ag O O O O O O O (ag O O O O O O O ?_)
    refine aa O O O (aE O O O) (aa O O O (af O O) ?_)
    refine ag O O O O O O O (ag O O O O O O O ?_)
    refine ag O O O O O O O (ag O O O O O O O ?_)
    refine ag O O O O O O O (aa O O O (aE O O O) ?_)
    refine aa O O O (af O O) (ag O O O O O O O ?_)
    refine ag O O O O O O O (ag O O O O O O O ?_)
    refine ag O O O O O O O (ag O O O O O O O ?_)
    refine aa O O O (aE O O O) (aa O O O (af O O) ?_)
    refine ag O O O O O O O (ag O O O O O O O ?_)
    refine ag O O O O O O O (ag O O O O O O O ?_)
    refine ag O O O O O O O (aa O O O (aE O O O) ?_)
    refine aa O O O (af O O) (ag O O O O O O O ?_)
    refine ag O O O O O O O (ag O O O O O O O ?_)
    refine ag O O O O O O O (ag O O O O O O O ?_)
    refine aa O O O (aE O O O) (aa O O O (af O O) ?_)
    refine ag O O O O O O O (ag O O O O O O O ?_)
    refine ag O O O O O O O (ag O O O O O O O ?_)
    refine ag O O O O O O O (aa O O O (aE O O O) ?_)
    refine aa O O O (af O O) (ag O O O O O O O ?_)
    refine ag O O O O O O O (ag O O O O O O O ?_)
    refine ag O O O O O O O (ag O O O O O O O ?_)
    refine aa O O O (aE O O O) (aa O O O (af O O) ?_)
    refine ag O O O O O O O (ag O O O O O O O ?_)
    refine ag O O O O O O O (ag O O O O O O O ?_)
    refine ag O O O O O O O (aa O O O (aE O O O) ?_)
    refine aa O O O (af O O) (ag O O O O O O O ?_)
    refine ag O O O O O O O (ag O O O O O O O ?_)
    refine ag O O O O O O O (ag O O O O O O O ?_)
    refine aa O O O (aE O O O) (aa O O O (ak O O) ?_)
    refine ai (ae ?_)
    refine hK2 _ _ (aw av (ar O (.cons (.tmp O) .nil) O) (fun w' hM' hK' => ?_))
    exact ⟨hne (fun h => h_date (by rw [h])), hK'⟩
  ·
   have h_au : ¬ (a.author = b.author) := by simpa using hg17
   refine ag O O O O O O O (ag O O O O O O O ?_)
   refine ag O O O O O O O (ag O O O O O O O ?_)
   refine ag O O O O O O O (aa O O O (aE O O O) ?_)
   refine aa O O O (af O O) (ag O O O O O O O ?_)
   refine ag O O O O O O O (ag O O O O O O O ?_)
   refine ag O O O O O O O (ag O O O O O O O ?_)
   refine aa O O O (aE O O O) (aa O O O (af O O) ?_)
   refine ag O O O O O O O (ag O O O O O O O ?_)
   refine ag O O O O O O O (ag O O O O O O O ?_)
   refine ag O O O O O O O (aa O O O (aE O O O) ?_)
   refine aa O O O (af O O) (ag O O O O O O O ?_)
   refine ag O O O O O O O (ag O O O O O O O ?_)
   refine ag O O O O O O O (ag O O O O O O O ?_)
   refine aa O O O (aE O O O) (aa O O O (af O O) ?_)
   refine ag O O O O O O O (ag O O O O O O O ?_)
   refine ag O O O O O O O (ag O O O O O O O ?_)
   refine ag O O O O O O O (aa O O O (aE O O O) ?_)
   refine aa O O O (af O O) (ag O O O O O O O ?_)
   refine ag O O O O O O O (ag O O O O O O O ?_)
   refine ag O O O O O O O (ag O O O O O O O ?_)
   refine aa O O O (aE O O O) (aa O O O (af O O) ?_)
   refine ag O O O O O O O (ag O O O O O O O ?_)
   refine ag O O O O O O O (ag O O O O O O O ?_)
   refine ag O O O O O O O (aa O O O (aE O O O) ?_)
   refine aa O O O (af O O) (ag O O O O O O O ?_)
   refine ag O O O O O O O (ag O O O O O O O ?_)
   refine ag O O O O O O O (ag O O O O O O O ?_)
   refine aa O O O (aE O O O) (aa O O O (af O O) ?_)
   refine ag O O O O O O O (ag O O O O O O O ?_)
   refine ag O O O O O O O (ag O O O O O O O ?_)
   refine ag O O O O O O O (aa O O O (aE O O O) ?_)
   refine aa O O O (af O O) (ag O O O O O O O ?_)
   refine ag O O O O O O O (ag O O O O O O O ?_)
   refine ag O O O O O O O (ag O O O O O O O ?_)
   refine aa O O O (aE O O O) (aa O O O (af O O) ?_)
   refine ag O O O O O O O (ag O O O O O O O ?_)
   refine ag O O O O O O O (ag O O O O O O O ?_)
   refine ag O O O O O O O (aa O O O (aE O O O) ?_)
   refine aa O O O (ak O O) (ai ?_)
   refine ae (hK2 _ _ ?_)
   refine aw av (ar O (.cons (.tmp O) .nil) O) (fun w' hM' hK' => ?_)
   exact ⟨hne (fun h => h_au (by rw [h])), hK'⟩
 ·
  have h_name : ¬ (a.name = b.name) := by simpa using hg10
  refine ag O O O O O O O (ag O O O O O O O ?_)
  refine ag O O O O O O O (ag O O O O O O O ?_)
  refine ag O O O O O O O (aa O O O (aE O O O) ?_)
  refine aa O O O (af O O) (ag O O O O O O O ?_)
  refine ag O O O O O O O (ag O O O O O O O ?_)
  refine ag O O O O O O O (ag O O O O O O O ?_)
  refine aa O O O (aE O O O) (aa O O O (af O O) ?_)
  refine ag O O O O O O O (ag O O O O O O O ?_)
  refine ag O O O O O O O (ag O O O O O O O ?_)
  refine ag O O O O O O O (aa O O O (aE O O O) ?_)
  refine aa O O O (af O O) (ag O O O O O O O ?_)
  refine ag O O O O O O O (ag O O O O O O O ?_)
  refine ag O O O O O O O (ag O O O O O O O ?_)
  refine aa O O O (aE O O O) (aa O O O (af O O) ?_)
  refine ag O O O O O O O (ag O O O O O O O ?_)
  refine ag O O O O O O O (ag O O O O O O O ?_)
  refine ag O O O O O O O (aa O O O (aE O O O) ?_)
  refine aa O O O (af O O) (ag O O O O O O O ?_)
  refine ag O O O O O O O (ag O O O O O O O ?_)
  refine ag O O O O O O O (ag O O O O O O O ?_)
  refine aa O O O (aE O O O) (aa O O O (af O O) ?_)
  refine ag O O O O O O O (ag O O O O O O O ?_)
  refine ag O O O O O O O (ag O O O O O O O ?_)
  refine ag O O O O O O O (aa O O O (aE O O O) ?_)
  refine aa O O O (af O O) (ag O O O O O O O ?_)
  refine ag O O O O O O O (ag O O O O O O O ?_)
  refine ag O O O O O O O (ag O O O O O O O ?_)
  refine aa O O O (aE O O O) (aa O O O (af O O) ?_)
  refine ag O O O O O O O (ag O O O O O O O ?_)
  refine ag O O O O O O O (ag O O O O O O O ?_)
  refine ag O O O O O O O (aa O O O (aE O O O) ?_)
  refine aa O O O (af O O) (ag O O O O O O O ?_)
  refine ag O O O O O O O (ag O O O O O O O ?_)
  refine ag O O O O O O O (ag O O O O O O O ?_)
  refine aa O O O (aE O O O) (aa O O O (af O O) ?_)
  refine ag O O O O O O O (ag O O O O O O O ?_)
  refine ag O O O O O O O (ag O O O O O O O ?_)
  refine ag O O O O O O O (aa O O O (aE O O O) ?_)
  refine aa O O O (af O O) (ag O O O O O O O ?_)
  refine ag O O O O O O O (ag O O O O O O O ?_)
  refine ag O O O O O O O (ag O O O O O O O ?_)
  refine aa O O O (aE O O O) (aa O O O (ak O O) ?_)
  refine ai (ae ?_)
  refine hK2 _ _ (aw av (ar O (.cons (.tmp O) .nil) O) (fun w' hM' hK' => ?_))
  exact ⟨hne (fun h => h_name (by rw [h])), hK'⟩

theorem cclone_c (c : Con) (p : CAt) (hgl : c.groups.length ≤ 100000) (hrl : c.refs.length ≤ 100000) (w : World) (hR : CRd w c p) :
  Calls Tryz.prog 12 [.agg (flat (cseg c p))].toArray w fun e w' => ∃ y : CAt, cat c y ∧ e = .returned (.agg (flat (cseg c y))) ∧ Post w (blocksOf []) (crows c y) w' := by
 obtain ⟨hg, hr, hgc, hrc⟩ := hR
 have hg1 : c.groups.length = p.gl := by simpa using hg.1
 have hr1 : c.refs.length = p.rl := by have := hr.1; rw [idsV_len] at this; omega
 refine aJ (n := 12) (W := (blocksOf [])) (m := []) Tryz.func12 O Tryz.ntmps12 O (aO _ _ _) ?_
 simp only [SL.enum, Nat.reduceAdd]
 refine ah fun K1 hK1 => aj (am O (bh _ O O O O O) ?_)
 intro b1 _
 try simp only [setN, putD, selM, nth, cw, cx]
 refine am O (aX [Seg.one (str []) rfl, (B.zero 16).seg, Seg.one (.int .i64 0) rfl, Seg.one (.slice none 0 0) rfl, Seg.one (str []) rfl, Seg.one (.slice none 0 0) rfl, (B.zero 32).seg, Seg.one (str []) rfl, Seg.one (str []) rfl, Seg.one (.int .i64 0) rfl, Seg.one (.int .i64 0) rfl, (B.zero 16).seg, Seg.one (.int .i64 0) rfl, Seg.one (str []) rfl] O O O (by kernel_rfl)) ?_
 intro b2 _
 try simp only [setN, putD, selM, nth, cw, cx]
 refine ai (ae ?_)
 refine hK1 _ _ (ah fun K2 hK2 => ?_)
 refine ck [] mixed O O ?_
 simp only [List.replicate, List.length_cons, List.length_nil, Nat.reduceAdd, SL.selM, SL.nth]
 refine aG 0 O O O O (by kernel_rfl) (by kernel_rfl) (by kernel_rfl) O (fun _ _ _ h => h) [] O O (au (k := 18) O O (by kernel_rfl) O) ?_
 refine aG 3 O O O O (by kernel_rfl) (by kernel_rfl) (by kernel_rfl) O (fun _ _ _ h => h) [] O O (au (k := 20) O O (by kernel_rfl) O) ?_
 refine SL.OkH.eff2 1 4 O O O O (by kernel_rfl) O O [] (fun _ => rfl) O (bZ O O (by first | exact al 0 O O O O (by kernel_rfl) | exact al 1 O O O O (by kernel_rfl))) [] (fun _ => rfl) O (bZ O O (by first | exact al 0 O O O O (by kernel_rfl) | exact al 1 O O O O (by kernel_rfl))) ?_ ?_
 ·
  intro _ _
  try simp only [setN, putD, selM, nth, cw, cx]
  refine SL.OkH.eff2 2 4 O O O O (by kernel_rfl) O O [] (fun _ => rfl) O (bJ O (aM [] [0, 1] O O (by kernel_rfl) O O O O (fun w hM hK => sClone_c c.groups p.ga p.gl p.gc (by omega) w (hg.keep (k0 hK))))) [] (fun _ => rfl) O (bZ O O (by first | exact al 0 O O O O (by kernel_rfl) | exact al 1 O O O O (by kernel_rfl))) ?_ ?_
  ·
   intro ⟨q5, d5⟩ hd5
   try simp only [setN, putD, selM, nth, cw, cx]
   refine aY 4 O O (by kernel_rfl) O [] (fun _ => rfl) O (bZ O O (by first | exact al 0 O O O O (by kernel_rfl) | exact al 1 O O O O (by kernel_rfl) | exact al 2 O O O O (by kernel_rfl))) ?_
   intro _ _
   refine aG 6 O O O O (by kernel_rfl) (by kernel_rfl) (by kernel_rfl) O (fun _ _ _ h => h) [] O O (au (k := 18) O O (by kernel_rfl) O) ?_
   refine aY 5 O O (by kernel_rfl) O [] (fun _ => rfl) O (bJ O (aM [] [0, 1, 2] O O (by kernel_rfl) O O O O (fun w hM hK => iClone_c c.refs p.ra p.rl p.rc (by omega) w (hr.keep (k0 hK))))) ?_
   intro ⟨q8, d8⟩ hd8
   try simp only [setN, putD, selM, nth, cw, cx]
   refine aY 7 O O (by kernel_rfl) O [] (fun _ => rfl) O (by first | exact ap (k := 1) 0 [SL.Seg.one _ rfl] O O O O O O (by kernel_rfl) O O | exact ap (k := 1) 1 [SL.Seg.one _ rfl] O O O O O O (by kernel_rfl) O O | exact ap (k := 1) 2 [SL.Seg.one _ rfl] O O O O O O (by kernel_rfl) O O | exact ap (k := 1) 3 [SL.Seg.one _ rfl] O O O O O O (by kernel_rfl) O O) ?_
   intro _ _
   try simp only [setN, putD, selM, nth, cw, cx]
   refine aG 8 O O O O (by kernel_rfl) (by kernel_rfl) (by kernel_rfl) O (fun _ _ _ h => h) [] O O (au (k := 20) O O (by kernel_rfl) O) ?_
   refine aY 9 O O (by kernel_rfl) O [] (fun _ => rfl) O (by first | exact ap (k := 1) 0 [SL.Seg.one _ rfl] O O O O O O (by kernel_rfl) O O | exact ap (k := 1) 1 [SL.Seg.one _ rfl] O O O O O O (by kernel_rfl) O O | exact ap (k := 1) 2 [SL.Seg.one _ rfl] O O O O O O (by kernel_rfl) O O | exact ap (k := 1) 3 [SL.Seg.one _ rfl] O O O O O O (by kernel_rfl) O O) ?_
   intro _ _
   try simp only [setN, putD, selM, nth, cw, cx]
   refine bN (by kernel_rfl) ?_
   refine ae (hK2 _ _ ?_)
   refine ah fun K3 hK3 => aj (aa O O O (by first | exact ay 0 (k := 75) O O O (by kernel_rfl) O (by kernel_rfl) | exact ay 1 (k := 75) O O O (by kernel_rfl) O (by kernel_rfl) | exact ay 2 (k := 75) O O O (by kernel_rfl) O (by kernel_rfl) | exact ay 3 (k := 75) O O O (by kernel_rfl) O (by kernel_rfl)) ?_)
   refine am O (by first | exact ap (k := 75) 0 _ O O O O O O (by kernel_rfl) O O | exact ap (k := 75) 1 _ O O O O O O (by kernel_rfl) O O | exact ap (k := 75) 2 _ O O O O O O (by kernel_rfl) O O | exact ap (k := 75) 3 _ O O O O O O (by kernel_rfl) O O) ?_
   intro _ _
   try simp only [setN, putD, selM, nth, cw, cx]
   refine ai (ae ?_)
   refine hK3 _ _ (aw av (ar O (.cons (by first | exact SL.RV.cellA 0 (k := 75) O O (by kernel_rfl) O (by kernel_rfl) | exact SL.RV.cellA 1 (k := 75) O O (by kernel_rfl) O (by kernel_rfl) | exact SL.RV.cellA 2 (k := 75) O O (by kernel_rfl) O (by kernel_rfl) | exact SL.RV.cellA 3 (k := 75) O O (by kernel_rfl) O (by kernel_rfl)) .nil) O) (fun w' hM' hK' => ?_))
   exact ⟨⟨q5, c.groups.length, d5, q8, c.refs.length, d8⟩, ⟨rfl, rfl, by rw [hg1]; exact hd5, by rw [hr1]; exact hd8⟩, by rw [hg1, hr1]; rfl, hK', by have h := hM'.sel [0, 1] rfl; rw [← hg1, ← hr1] at h; exact h⟩
  ·
   intro _ _
   try simp only [setN, putD, selM, nth, cw, cx]
   refine aY 2 O O (by kernel_rfl) O [] (fun _ => rfl) O (bJ O (aM [] [0, 1] O O (by kernel_rfl) O O O O (fun w hM hK => sClone_c c.groups p.ga p.gl p.gc (by omega) w (hg.keep (k0 hK))))) ?_
   intro ⟨q5, d5⟩ hd5
   try simp only [setN, putD, selM, nth, cw, cx]
   refine aG 6 O O O O (by kernel_rfl) (by kernel_rfl) (by kernel_rfl) O (fun _ _ _ h => h) [] O O (au (k := 18) O O (by kernel_rfl) O) ?_
   refine aY 5 O O (by kernel_rfl) O [] (fun _ => rfl) O (bJ O (aM [] [0, 1, 2] O O (by kernel_rfl) O O O O (fun w hM hK => iClone_c c.refs p.ra p.rl p.rc (by omega) w (hr.keep (k0 hK))))) ?_
   intro ⟨q8, d8⟩ hd8
   try simp only [setN, putD, selM, nth, cw, cx]
   refine aY 7 O O (by kernel_rfl) O [] (fun _ => rfl) O (by first | exact ap (k := 1) 0 [SL.Seg.one _ rfl] O O O O O O (by kernel_rfl) O O | exact ap (k := 1) 1 [SL.Seg.one _ rfl] O O O O O O (by kernel_rfl) O O | exact ap (k := 1) 2 [SL.Seg.one _ rfl] O O O O O O (by kernel_rfl) O O | exact ap (k := 1) 3 [SL.Seg.one _ rfl] O O O O O O (by kernel_rfl) O O) ?_
   intro _ _
   try simp only [setN, putD, selM, nth, cw, cx]
   refine aG 8 O O O O (by kernel_rfl) (by kernel_rfl) (by kernel_rfl) O (fun _ _ _ h => h) [] O O (au (k := 20) O O (by kernel_rfl) O) ?_
   refine aY 9 O O (by kernel_rfl) O [] (fun _ => rfl) O (by first | exact ap (k := 1) 0 [SL.Seg.one _ rfl] O O O O O O (by kernel_rfl) O O | exact ap (k := 1) 1 [SL.Seg.one _ rfl] O O O O O O (by kernel_rfl) O O | exact ap (k := 1) 2 [SL.Seg.one _ rfl] O O O O O O (by kernel_rfl) O O | exact ap (k := 1) 3 [SL.Seg.one _ rfl] O O O O O O (by kernel_rfl) O O) ?_
   intro _ _
   try simp only [setN, putD, selM, nth, cw, cx]
   refine bN (by kernel_rfl) ?_
   refine ae (hK2 _ _ ?_)
   refine ah fun K4 hK4 => aj (aa O O O (by first | exact ay 0 (k := 75) O O O (by kernel_rfl) O (by kernel_rfl) | exact ay 1 (k := 75) O O O (by kernel_rfl) O (by kernel_rfl) | exact ay 2 (k := 75) O O O (by kernel_rfl) O (by kernel_rfl) | exact ay 3 (k := 75) O O O (by kernel_rfl) O (by kernel_rfl)) ?_)
   refine am O (by first | exact ap (k := 75) 0 _ O O O O O O (by kernel_rfl) O O | exact ap (k := 75) 1 _ O O O O O O (by kernel_rfl) O O | exact ap (k := 75) 2 _ O O O O O O (by kernel_rfl) O O | exact ap (k := 75) 3 _ O O O O O O (by kernel_rfl) O O) ?_
   intro _ _
   try simp only [setN, putD, selM, nth, cw, cx]
   refine ai (ae ?_)
   refine hK4 _ _ (aw av (ar O (.cons (by first | exact SL.RV.cellA 0 (k := 75) O O (by kernel_rfl) O (by kernel_rfl) | exact SL.RV.cellA 1 (k := 75) O O (by kernel_rfl) O (by kernel_rfl) | exact SL.RV.cellA 2 (k := 75) O O (by kernel_rfl) O (by kernel_rfl) | exact SL.RV.cellA 3 (k := 75) O O (by kernel_rfl) O (by kernel_rfl)) .nil) O) (fun w' hM' hK' => ?_))
   exact ⟨⟨q5, c.groups.length, d5, q8, c.refs.length, d8⟩, ⟨rfl, rfl, by rw [hg1]; exact hd5, by rw [hr1]; exact hd8⟩, by rw [hg1, hr1]; rfl, hK', by have h := hM'.sel [0, 1] rfl; rw [← hg1, ← hr1] at h; exact h⟩
 ·
  intro _ _
  try simp only [setN, putD, selM, nth, cw, cx]
  refine aY 1 O O (by kernel_rfl) O [] (fun _ => rfl) O (bZ O O (by first | exact al 0 O O O O (by kernel_rfl) | exact al 1 O O O O (by kernel_rfl))) ?_
  intro _ _
  refine aY 2 O O (by kernel_rfl) O [] (fun _ => rfl) O (bJ O (aM [] [0, 1] O O (by kernel_rfl) O O O O (fun w hM hK => sClone_c c.groups p.ga p.gl p.gc (by omega) w (hg.keep (k0 hK))))) ?_
  intro ⟨q5, d5⟩ hd5
  try simp only [setN, putD, selM, nth, cw, cx]
  refine aG 6 O O O O (by kernel_rfl) (by kernel_rfl) (by kernel_rfl) O (fun _ _ _ h => h) [] O O (au (k := 18) O O (by kernel_rfl) O) ?_
  refine aY 5 O O (by kernel_rfl) O [] (fun _ => rfl) O (bJ O (aM [] [0, 1, 2] O O (by kernel_rfl) O O O O (fun w hM hK => iClone_c c.refs p.ra p.rl p.rc (by omega) w (hr.keep (k0 hK))))) ?_
  intro ⟨q8, d8⟩ hd8
  try simp only [setN, putD, selM, nth, cw, cx]
  refine aY 7 O O (by kernel_rfl) O [] (fun _ => rfl) O (by first | exact ap (k := 1) 0 [SL.Seg.one _ rfl] O O O O O O (by kernel_rfl) O O | exact ap (k := 1) 1 [SL.Seg.one _ rfl] O O O O O O (by kernel_rfl) O O | exact ap (k := 1) 2 [SL.Seg.one _ rfl] O O O O O O (by kernel_rfl) O O | exact ap (k := 1) 3 [SL.Seg.one _ rfl] O O O O O O (by kernel_rfl) O O) ?_
  intro _ _
  try simp only [setN, putD, selM, nth, cw, cx]
  refine aG 8 O O O O (by kernel_rfl) (by kernel_rfl) (by kernel_rfl) O (fun _ _ _ h => h) [] O O (au (k := 20) O O (by kernel_rfl) O) ?_
  refine aY 9 O O (by kernel_rfl) O [] (fun _ => rfl) O (by first | exact ap (k := 1) 0 [SL.Seg.one _ rfl] O O O O O O (by kernel_rfl) O O | exact ap (k := 1) 1 [SL.Seg.one _ rfl] O O O O O O (by kernel_rfl) O O | exact ap (k := 1) 2 [SL.Seg.one _ rfl] O O O O O O (by kernel_rfl) O O | exact ap (k := 1) 3 [SL.Seg.one _ rfl] O O O O O O (by kernel_rfl) O O) ?_
  intro _ _
  try simp only [setN, putD, selM, nth, cw, cx]
  refine bN (by kernel_rfl) ?_
  refine ae (hK2 _ _ ?_)
  refine ah fun K5 hK5 => aj (aa O O O (by first | exact ay 0 (k := 75) O O O (by kernel_rfl) O (by kernel_rfl) | exact ay 1 (k := 75) O O O (by kernel_rfl) O (by kernel_rfl) | exact ay 2 (k := 75) O O O (by kernel_rfl) O (by kernel_rfl) | exact ay 3 (k := 75) O O O (by kernel_rfl) O (by kernel_rfl)) ?_)
  refine am O (by first | exact ap (k := 75) 0 _ O O O O O O (by kernel_rfl) O O | exact ap (k := 75) 1 _ O O O O O O (by kernel_rfl) O O | exact ap (k := 75) 2 _ O O O O O O (by kernel_rfl) O O | exact ap (k := 75) 3 _ O O O O O O (by kernel_rfl) O O) ?_
  intro _ _
  try simp only [setN, putD, selM, nth, cw, cx]
  refine ai (ae ?_)
  refine hK5 _ _ (aw av (ar O (.cons (by first | exact SL.RV.cellA 0 (k := 75) O O (by kernel_rfl) O (by kernel_rfl) | exact SL.RV.cellA 1 (k := 75) O O (by kernel_rfl) O (by kernel_rfl) | exact SL.RV.cellA 2 (k := 75) O O (by kernel_rfl) O (by kernel_rfl) | exact SL.RV.cellA 3 (k := 75) O O (by kernel_rfl) O (by kernel_rfl)) .nil) O) (fun w' hM' hK' => ?_))
  exact ⟨⟨q5, c.groups.length, d5, q8, c.refs.length, d8⟩, ⟨rfl, rfl, by rw [hg1]; exact hd5, by rw [hr1]; exact hd8⟩, by rw [hg1, hr1]; rfl, hK', by have h := hM'.sel [0, 1] rfl; rw [← hg1, ← hr1] at h; exact h⟩
end Go.Proofs.YthfhhkanpnemcaaGreatDoor
namespace Go.Proofs.YthfhhkanpnemcaaGreatDoor
open Go.SL Go.RowKit IntWalk
set_option linter.unusedVariables false
set_option maxRecDepth 1000000
set_option linter.unusedSimpArgs false
set_option maxHeartbeats 400000

def au1 : B 16 := ⟨[1, 0, 0, 0, 0, 0, 0, 0, 0, 0, 0, 0, 0, 0, 0, 0], rfl⟩
def exC (s : List UInt8) : Con := ⟨[65, 110, 110], au1, 0, [[97, 46, 98]], s, [], B.zero 32, [], [], 0, 1, B.zero 16, 0, []⟩
abbrev tea : List UInt8 := [116, 101, 97]
abbrev ten : List UInt8 := [116, 101, 110]
theorem ex_check1 : checkM (exC tea) = 0 := by decide
theorem ex_check2 : checkM (exC ten) = 0 := by decide
def exF1 : List UInt8 := [110, 97, 109, 101, 32, 65, 110, 110, 10, 97, 117, 116, 104, 111, 114, 32, 48, 49, 48, 48, 48, 48, 48, 48, 48, 48, 48, 48, 48, 48, 48, 48, 48, 48, 48, 48, 48, 48, 48, 48, 48, 48, 48, 48, 48, 48, 48, 48, 10, 100, 97, 116, 101, 32, 48, 10, 103, 114, 111, 117, 112, 115, 32, 97, 46, 98, 10, 115, 117, 98, 106, 101, 99, 116, 32, 116, 101, 97, 10, 114, 101, 102, 101, 114, 101, 110, 99, 101, 115, 32, 10, 115, 117, 112, 101, 114, 115, 101, 100, 101, 115, 32, 10, 99, 111, 110, 116, 114, 111, 108, 32, 10, 100, 105, 115, 116, 114, 105, 98, 117, 116, 105, 111, 110, 32, 10, 107, 101, 121, 32, 48, 32, 65, 81, 65, 65, 65, 65, 65, 65, 65, 65, 65, 65, 65, 65, 65, 65, 65, 65, 65, 65, 65, 65, 65, 61, 10, 108, 101, 97, 102, 32, 48, 10, 10]
def exF2 : List UInt8 := [110, 97, 109, 101, 32, 65, 110, 110, 10, 97, 117, 116, 104, 111, 114, 32, 48, 49, 48, 48, 48, 48, 48, 48, 48, 48, 48, 48, 48, 48, 48, 48, 48, 48, 48, 48, 48, 48, 48, 48, 48, 48, 48, 48, 48, 48, 48, 48, 10, 100, 97, 116, 101, 32, 48, 10, 103, 114, 111, 117, 112, 115, 32, 97, 46, 98, 10, 115, 117, 98, 106, 101, 99, 116, 32, 116, 101, 110, 10, 114, 101, 102, 101, 114, 101, 110, 99, 101, 115, 32, 10, 115, 117, 112, 101, 114, 115, 101, 100, 101, 115, 32, 10, 99, 111, 110, 116, 114, 111, 108, 32, 10, 100, 105, 115, 116, 114, 105, 98, 117, 116, 105, 111, 110, 32, 10, 107, 101, 121, 32, 48, 32, 65, 81, 65, 65, 65, 65, 65, 65, 65, 65, 65, 65, 65, 65, 65, 65, 65, 65, 65, 65, 65, 65, 65, 61, 10, 108, 101, 97, 102, 32, 48, 10, 10]
theorem dec0 : Lib.decDigits 0 = [48] := dec_small (by decide)
theorem ex_form1 : formP (exC tea) = exF1 := by
 have h : formP (exC tea) = Lib.join [[110, 97, 109, 101, 32] ++ [65, 110, 110], [97, 117, 116, 104, 111, 114, 32] ++ hexs au1.l, [100, 97, 116, 101, 32] ++ Lib.decDigits 0, [103, 114, 111, 117, 112, 115, 32] ++ grM (exC tea), [115, 117, 98, 106, 101, 99, 116, 32] ++ tea, [114, 101, 102, 101, 114, 101, 110, 99, 101, 115, 32] ++ rfM (exC tea), [115, 117, 112, 101, 114, 115, 101, 100, 101, 115, 32] ++ msgM (B.zero 32), [99, 111, 110, 116, 114, 111, 108, 32] ++ [], [100, 105, 115, 116, 114, 105, 98, 117, 116, 105, 111, 110, 32] ++ [], [107, 101, 121, 32] ++ (Lib.decDigits 0 ++ [32] ++ pubT 1 (B.zero 16)), [108, 101, 97, 102, 32] ++ Lib.decDigits 0, []] [10] ++ [10] ++ [] := rfl
 rw [h, dec0]
 decide
theorem ex_form2 : formP (exC ten) = exF2 := by
 have h : formP (exC ten) = Lib.join [[110, 97, 109, 101, 32] ++ [65, 110, 110], [97, 117, 116, 104, 111, 114, 32] ++ hexs au1.l, [100, 97, 116, 101, 32] ++ Lib.decDigits 0, [103, 114, 111, 117, 112, 115, 32] ++ grM (exC ten), [115, 117, 98, 106, 101, 99, 116, 32] ++ ten, [114, 101, 102, 101, 114, 101, 110, 99, 101, 115, 32] ++ rfM (exC ten), [115, 117, 112, 101, 114, 115, 101, 100, 101, 115, 32] ++ msgM (B.zero 32), [99, 111, 110, 116, 114, 111, 108, 32] ++ [], [100, 105, 115, 116, 114, 105, 98, 117, 116, 105, 111, 110, 32] ++ [], [107, 101, 121, 32] ++ (Lib.decDigits 0 ++ [32] ++ pubT 1 (B.zero 16)), [108, 101, 97, 102, 32] ++ Lib.decDigits 0, []] [10] ++ [10] ++ [] := rfl
 rw [h, dec0]
 decide
theorem ex_pfx : pfx exF1 [110, 97, 109, 101, 32, 65, 110, 110, 10, 97, 117, 116, 104, 111, 114, 32, 48, 49, 48, 48] = true := by decide
theorem ex_sha1 : ((sha exF1).l.getD 0 0).toNat = 220 := by kernel_rfl
theorem ex_sha2 : ((sha exF2).l.getD 0 0).toNat = 254 := by kernel_rfl
theorem ex_ne : ¬ sha exF1 = sha exF2 := fun h => by
 have h1 := ex_sha1
 rw [h, ex_sha2] at h1
 exact absurd h1 (by decide)
end Go.Proofs.YthfhhkanpnemcaaGreatDoor
namespace Go.Proofs.YthfhhkanpnemcaaGreatDoor
open Go.SL Go.RowKit IntWalk
set_option linter.unusedVariables false
set_option maxRecDepth 100000
set_option linter.unusedSimpArgs false
set_option maxHeartbeats 1000000

theorem own2_c (c : Con) (p : CAt) (hgl : c.groups.length ≤ 100000) (hrl : c.refs.length ≤ 100000) (w : World) (hR : CRd w c p) :
  Calls Tryz.prog 7 [.agg (flat (cseg c p))].toArray w fun e w' => ∃ y : CAt, (cat c y ∧ y.ga ≠ none ∧ y.ra ≠ none) ∧ e = .returned (.agg (flat (cseg c y))) ∧ Post w (blocksOf []) (crows c y) w' := by
 obtain ⟨hg, hr, hgc, hrc⟩ := hR
 have hg1 : c.groups.length = p.gl := by simpa using hg.1
 have hr1 : c.refs.length = p.rl := by have := hr.1; rw [idsV_len] at this; omega
 have hno : ∀ (a : Option Addr) (n : Nat), ∀ b off, a = some ⟨b, off, none⟩ → 0 < n → ¬ blocksOf [] b := by rintro a n b off _ _ ⟨res, h, _⟩; cases h
 refine aJ (n := 37) (W := (blocksOf [])) (m := []) Tryz.func7 O Tryz.ntmps7 O (aO _ _ _) ?_
 simp only [SL.enum, Nat.reduceAdd]
 refine ah fun K1 hK1 => aj (am O (bh _ O O O O O) ?_)
 intro b1 _
 try simp only [setN, putD, selM, nth, cw, cx]
 refine am O (aX [Seg.one (str []) rfl, (B.zero 16).seg, Seg.one (.int .i64 0) rfl, Seg.one (.slice none 0 0) rfl, Seg.one (str []) rfl, Seg.one (.slice none 0 0) rfl, (B.zero 32).seg, Seg.one (str []) rfl, Seg.one (str []) rfl, Seg.one (.int .i64 0) rfl, Seg.one (.int .i64 0) rfl, (B.zero 16).seg, Seg.one (.int .i64 0) rfl, Seg.one (str []) rfl] O O O (by kernel_rfl)) ?_
 intro b2 _
 try simp only [setN, putD, selM, nth, cw, cx]
 refine ai (ae ?_)
 refine hK1 _ _ (ah fun K2 hK2 => ?_)
 refine ck [1] mixed O O ?_
 simp only [List.replicate, List.length_cons, List.length_nil, Nat.reduceAdd, SL.selM, SL.nth]
 refine aG 0 O O O O (by kernel_rfl) (by kernel_rfl) (by kernel_rfl) O (fun _ _ _ h => h) [1] O O (au (k := 0) O O (by kernel_rfl) O) ?_
 refine aG 1 O O O O (by kernel_rfl) (by kernel_rfl) (by kernel_rfl) O (fun _ _ _ h => h) [1] O O (by first | exact al 0 O O O O (by kernel_rfl) | exact al 1 O O O O (by kernel_rfl)) ?_
 refine aG 2 O O O O (by kernel_rfl) (by kernel_rfl) (by kernel_rfl) O (fun _ _ _ h => h) [1] O O (au (k := 1) O O (by kernel_rfl) O) ?_
 refine aG 3 O O O O (by kernel_rfl) (by kernel_rfl) (by kernel_rfl) O (fun _ _ _ h => h) [1] O O (by first | exact ay 0 (k := 16) O O O (by kernel_rfl) O (by kernel_rfl) | exact ay 1 (k := 16) O O O (by kernel_rfl) O (by kernel_rfl)) ?_
 refine aG 4 O O O O (by kernel_rfl) (by kernel_rfl) (by kernel_rfl) O (fun _ _ _ h => h) [1] O O (au (k := 17) O O (by kernel_rfl) O) ?_
 refine aG 5 O O O O (by kernel_rfl) (by kernel_rfl) (by kernel_rfl) O (fun _ _ _ h => h) [1] O O (by first | exact al 0 O O O O (by kernel_rfl) | exact al 1 O O O O (by kernel_rfl)) ?_
 refine aG 7 O O O O (by kernel_rfl) (by kernel_rfl) (by kernel_rfl) O (fun _ _ _ h => h) [1] O O (au (k := 18) O O (by kernel_rfl) O) ?_
 refine aG 8 O O O O (by kernel_rfl) (by kernel_rfl) (by kernel_rfl) O (fun _ _ _ h => h) [1] O O (by first | exact al 0 O O O O (by kernel_rfl) | exact al 1 O O O O (by kernel_rfl)) ?_
 refine aG 10 O O O O (by kernel_rfl) (by kernel_rfl) (by kernel_rfl) O (fun _ _ _ h => h) [1] O O (au (k := 19) O O (by kernel_rfl) O) ?_
 refine aG 11 O O O O (by kernel_rfl) (by kernel_rfl) (by kernel_rfl) O (fun _ _ _ h => h) [1] O O (by first | exact al 0 O O O O (by kernel_rfl) | exact al 1 O O O O (by kernel_rfl)) ?_
 refine aG 13 O O O O (by kernel_rfl) (by kernel_rfl) (by kernel_rfl) O (fun _ _ _ h => h) [1] O O (au (k := 20) O O (by kernel_rfl) O) ?_
 refine aG 14 O O O O (by kernel_rfl) (by kernel_rfl) (by kernel_rfl) O (fun _ _ _ h => h) [1] O O (by first | exact al 0 O O O O (by kernel_rfl) | exact al 1 O O O O (by kernel_rfl)) ?_
 refine aG 16 O O O O (by kernel_rfl) (by kernel_rfl) (by kernel_rfl) O (fun _ _ _ h => h) [1] O O (au (k := 21) O O (by kernel_rfl) O) ?_
 refine aG 17 O O O O (by kernel_rfl) (by kernel_rfl) (by kernel_rfl) O (fun _ _ _ h => h) [1] O O (by first | exact ay 0 (k := 32) O O O (by kernel_rfl) O (by kernel_rfl) | exact ay 1 (k := 32) O O O (by kernel_rfl) O (by kernel_rfl)) ?_
 refine aG 18 O O O O (by kernel_rfl) (by kernel_rfl) (by kernel_rfl) O (fun _ _ _ h => h) [1] O O (au (k := 53) O O (by kernel_rfl) O) ?_
 refine aG 19 O O O O (by kernel_rfl) (by kernel_rfl) (by kernel_rfl) O (fun _ _ _ h => h) [1] O O (by first | exact al 0 O O O O (by kernel_rfl) | exact al 1 O O O O (by kernel_rfl)) ?_
 refine aG 20 O O O O (by kernel_rfl) (by kernel_rfl) (by kernel_rfl) O (fun _ _ _ h => h) [1] O O (au (k := 54) O O (by kernel_rfl) O) ?_
 refine aG 21 O O O O (by kernel_rfl) (by kernel_rfl) (by kernel_rfl) O (fun _ _ _ h => h) [1] O O (by first | exact al 0 O O O O (by kernel_rfl) | exact al 1 O O O O (by kernel_rfl)) ?_
 refine aG 22 O O O O (by kernel_rfl) (by kernel_rfl) (by kernel_rfl) O (fun _ _ _ h => h) [1] O O (au (k := 55) O O (by kernel_rfl) O) ?_
 refine aG 23 O O O O (by kernel_rfl) (by kernel_rfl) (by kernel_rfl) O (fun _ _ _ h => h) [1] O O (by first | exact al 0 O O O O (by kernel_rfl) | exact al 1 O O O O (by kernel_rfl)) ?_
 refine aG 24 O O O O (by kernel_rfl) (by kernel_rfl) (by kernel_rfl) O (fun _ _ _ h => h) [1] O O (au (k := 56) O O (by kernel_rfl) O) ?_
 refine aG 25 O O O O (by kernel_rfl) (by kernel_rfl) (by kernel_rfl) O (fun _ _ _ h => h) [1] O O (by first | exact al 0 O O O O (by kernel_rfl) | exact al 1 O O O O (by kernel_rfl)) ?_
 refine aG 26 O O O O (by kernel_rfl) (by kernel_rfl) (by kernel_rfl) O (fun _ _ _ h => h) [1] O O (au (k := 57) O O (by kernel_rfl) O) ?_
 refine aG 27 O O O O (by kernel_rfl) (by kernel_rfl) (by kernel_rfl) O (fun _ _ _ h => h) [1] O O (by first | exact ay 0 (k := 16) O O O (by kernel_rfl) O (by kernel_rfl) | exact ay 1 (k := 16) O O O (by kernel_rfl) O (by kernel_rfl)) ?_
 refine aG 28 O O O O (by kernel_rfl) (by kernel_rfl) (by kernel_rfl) O (fun _ _ _ h => h) [1] O O (bg [(0, 1), (1, 16)] [Seg.one (.int .i64 0) rfl, (B.zero 16).seg] O O (.cons (.one O) (.cons .agg .nil)) (by kernel_rfl) (by kernel_rfl) O) ?_
 refine aG 29 O O O O (by kernel_rfl) (by kernel_rfl) (by kernel_rfl) O (fun _ _ _ h => h) [1] O O (au (k := 73) O O (by kernel_rfl) O) ?_
 refine aG 30 O O O O (by kernel_rfl) (by kernel_rfl) (by kernel_rfl) O (fun _ _ _ h => h) [1] O O (by first | exact al 0 O O O O (by kernel_rfl) | exact al 1 O O O O (by kernel_rfl)) ?_
 refine aG 31 O O O O (by kernel_rfl) (by kernel_rfl) (by kernel_rfl) O (fun _ _ _ h => h) [1] O O (au (k := 74) O O (by kernel_rfl) O) ?_
 refine aG 32 O O O O (by kernel_rfl) (by kernel_rfl) (by kernel_rfl) O (fun _ _ _ h => h) [1] O O (by first | exact al 0 O O O O (by kernel_rfl) | exact al 1 O O O O (by kernel_rfl)) ?_
 refine SL.OkH.eff2 6 12 O O O O (by kernel_rfl) O O [2] (fun _ => rfl) O (by exact bW #[] [] O O Tryz.underlying23 (by kernel_rfl) (by kernel_rfl) O (by decide) O O) [2] (fun _ => rfl) O (by exact SL.Eff.buildSliceE0 (sz := 32) O O Tryz.underlying24 (by kernel_rfl) O O) ?_ ?_
 ·
  intro g9 _
  try simp only [setN, putD, selM, nth, cw, cx]
  refine SL.OkH.eff2 9 12 O O O O (by kernel_rfl) O O [2] (fun _ => rfl) O (by first | exact bF (by' := 16) 0 [1, 2, 3] O O O O Tryz.underlying23 Tryz.underlying23 (by kernel_rfl) (fun w' _ hK => hg.keepS hK (hno _ _)) (SL.strs_one _) O O O O (by omega) (by omega) | exact bF (by' := 16) 1 [0, 2, 3] O O O O Tryz.underlying23 Tryz.underlying23 (by kernel_rfl) (fun w' _ hK => hg.keepS hK (hno _ _)) (SL.strs_one _) O O O O (by omega) (by omega)) [3] (fun _ => rfl) O (by exact SL.Eff.buildSliceE0 (sz := 32) O O Tryz.underlying24 (by kernel_rfl) O O) ?_ ?_
  ·
   intro v12 hv12
   try simp only [setN, putD, selM, nth, cw, cx]
   simp only [List.nil_append, Nat.zero_add, ← hg1]
   refine SL.OkH.rowAddr2 0 O ?_
   rintro (⟨rfl, _⟩ | ⟨q12, d12, rfl, hd12⟩)
   ·
    exact absurd (hv12.1.1 O).1 (by simp)
   refine aY 12 O O (by kernel_rfl) O [3] (fun _ => rfl) O (by exact SL.Eff.buildSliceE0 (sz := 32) O O Tryz.underlying24 (by kernel_rfl) O O) ?_
   intro g15 _
   try simp only [setN, putD, selM, nth, cw, cx]
   refine aY 15 O O (by kernel_rfl) O [3] (fun _ => rfl) O (by first | exact bF (by' := 32) 0 [1, 2, 3] O O O O Tryz.underlying24 Tryz.underlying24 (by kernel_rfl) (fun w' _ hK => hr.keepS hK (hno _ _)) (SL.idsV_one _) O O O O (by omega) (by omega) | exact bF (by' := 32) 1 [0, 2, 3] O O O O Tryz.underlying24 Tryz.underlying24 (by kernel_rfl) (fun w' _ hK => hr.keepS hK (hno _ _)) (SL.idsV_one _) O O O O (by omega) (by omega)) ?_
   intro v18 hv18
   try simp only [setN, putD, selM, nth, cw, cx]
   simp only [List.nil_append, Nat.zero_add, ← hr1]
   refine SL.OkH.rowAddr2 0 O ?_
   rintro (⟨rfl, _⟩ | ⟨q18, d18, rfl, hd18⟩)
   ·
    exact absurd (hv18.1.1 O).1 (by simp)
   refine aG 33 O O O O (by kernel_rfl) (by kernel_rfl) (by kernel_rfl) O (fun _ _ _ h => h) [3] O O (bg [(0, 1), (1, 16), (17, 1), (18, 1), (19, 1), (20, 1), (21, 32), (53, 1), (54, 1), (55, 1), (56, 17), (73, 1), (74, 1)] [Seg.one (str []) rfl, (B.zero 16).seg, Seg.one (.int .i64 0) rfl, Seg.one (.slice none 0 0) rfl, Seg.one (str []) rfl, Seg.one (.slice none 0 0) rfl, (B.zero 32).seg, Seg.one (str []) rfl, Seg.one (str []) rfl, Seg.one (.int .i64 0) rfl, Seg.one (.int .i64 0) rfl, (B.zero 16).seg, Seg.one (.int .i64 0) rfl, Seg.one (str []) rfl] O O (.cons (.one O) (.cons .agg (.cons (.one O) (.cons (.one O) (.cons (.one O) (.cons (.one O) (.cons .agg (.cons (.one O) (.cons (.one O) (.cons (.one O) (.cons .agg (.cons (.one O) (.cons (.one O) .nil))))))))))))) (by kernel_rfl) (by kernel_rfl) O) ?_
   refine aY 34 O O (by kernel_rfl) O [3] (fun _ => rfl) O (by first | exact ap (k := 75) 0 _ O O O O O O (by kernel_rfl) O O | exact ap (k := 75) 1 _ O O O O O O (by kernel_rfl) O O | exact ap (k := 75) 2 _ O O O O O O (by kernel_rfl) O O | exact ap (k := 75) 3 _ O O O O O O (by kernel_rfl) O O) ?_
   intro _ _
   try simp only [setN, putD, selM, nth, cw, cx]
   refine bN (by kernel_rfl) ?_
   refine ae (hK2 _ _ ?_)
   refine aw av (ar O (.cons (by first | exact SL.RV.cellA 0 (k := 75) O O (by kernel_rfl) O (by kernel_rfl) | exact SL.RV.cellA 1 (k := 75) O O (by kernel_rfl) O (by kernel_rfl) | exact SL.RV.cellA 2 (k := 75) O O (by kernel_rfl) O (by kernel_rfl) | exact SL.RV.cellA 3 (k := 75) O O (by kernel_rfl) O (by kernel_rfl)) .nil) O) (fun w' hM' hK' => ?_)
   exact ⟨⟨some ⟨q12, 0, none⟩, c.groups.length, d12, some ⟨q18, 0, none⟩, c.refs.length, d18⟩, ⟨⟨rfl, rfl, hd12, hd18⟩, by simp, by simp⟩, rfl, hK', hM'.sel [0, 1] rfl⟩
  ·
   intro g15 _
   try simp only [setN, putD, selM, nth, cw, cx]
   refine aY 9 O O (by kernel_rfl) O [3] (fun _ => rfl) O (by first | exact bF (by' := 16) 0 [1, 2, 3] O O O O Tryz.underlying23 Tryz.underlying23 (by kernel_rfl) (fun w' _ hK => hg.keepS hK (hno _ _)) (SL.strs_one _) O O O O (by omega) (by omega) | exact bF (by' := 16) 1 [0, 2, 3] O O O O Tryz.underlying23 Tryz.underlying23 (by kernel_rfl) (fun w' _ hK => hg.keepS hK (hno _ _)) (SL.strs_one _) O O O O (by omega) (by omega)) ?_
   intro v12 hv12
   try simp only [setN, putD, selM, nth, cw, cx]
   simp only [List.nil_append, Nat.zero_add, ← hg1]
   refine SL.OkH.rowAddr2 0 O ?_
   rintro (⟨rfl, _⟩ | ⟨q12, d12, rfl, hd12⟩)
   ·
    exact absurd (hv12.1.1 O).1 (by simp)
   refine aY 15 O O (by kernel_rfl) O [3] (fun _ => rfl) O (by first | exact bF (by' := 32) 0 [1, 2, 3] O O O O Tryz.underlying24 Tryz.underlying24 (by kernel_rfl) (fun w' _ hK => hr.keepS hK (hno _ _)) (SL.idsV_one _) O O O O (by omega) (by omega) | exact bF (by' := 32) 1 [0, 2, 3] O O O O Tryz.underlying24 Tryz.underlying24 (by kernel_rfl) (fun w' _ hK => hr.keepS hK (hno _ _)) (SL.idsV_one _) O O O O (by omega) (by omega)) ?_
   intro v18 hv18
   try simp only [setN, putD, selM, nth, cw, cx]
   simp only [List.nil_append, Nat.zero_add, ← hr1]
   refine SL.OkH.rowAddr2 0 O ?_
   rintro (⟨rfl, _⟩ | ⟨q18, d18, rfl, hd18⟩)
   ·
    exact absurd (hv18.1.1 O).1 (by simp)
   refine aG 33 O O O O (by kernel_rfl) (by kernel_rfl) (by kernel_rfl) O (fun _ _ _ h => h) [3] O O (bg [(0, 1), (1, 16), (17, 1), (18, 1), (19, 1), (20, 1), (21, 32), (53, 1), (54, 1), (55, 1), (56, 17), (73, 1), (74, 1)] [Seg.one (str []) rfl, (B.zero 16).seg, Seg.one (.int .i64 0) rfl, Seg.one (.slice none 0 0) rfl, Seg.one (str []) rfl, Seg.one (.slice none 0 0) rfl, (B.zero 32).seg, Seg.one (str []) rfl, Seg.one (str []) rfl, Seg.one (.int .i64 0) rfl, Seg.one (.int .i64 0) rfl, (B.zero 16).seg, Seg.one (.int .i64 0) rfl, Seg.one (str []) rfl] O O (.cons (.one O) (.cons .agg (.cons (.one O) (.cons (.one O) (.cons (.one O) (.cons (.one O) (.cons .agg (.cons (.one O) (.cons (.one O) (.cons (.one O) (.cons .agg (.cons (.one O) (.cons (.one O) .nil))))))))))))) (by kernel_rfl) (by kernel_rfl) O) ?_
   refine aY 34 O O (by kernel_rfl) O [3] (fun _ => rfl) O (by first | exact ap (k := 75) 0 _ O O O O O O (by kernel_rfl) O O | exact ap (k := 75) 1 _ O O O O O O (by kernel_rfl) O O | exact ap (k := 75) 2 _ O O O O O O (by kernel_rfl) O O | exact ap (k := 75) 3 _ O O O O O O (by kernel_rfl) O O) ?_
   intro _ _
   try simp only [setN, putD, selM, nth, cw, cx]
   refine bN (by kernel_rfl) ?_
   refine ae (hK2 _ _ ?_)
   refine aw av (ar O (.cons (by first | exact SL.RV.cellA 0 (k := 75) O O (by kernel_rfl) O (by kernel_rfl) | exact SL.RV.cellA 1 (k := 75) O O (by kernel_rfl) O (by kernel_rfl) | exact SL.RV.cellA 2 (k := 75) O O (by kernel_rfl) O (by kernel_rfl) | exact SL.RV.cellA 3 (k := 75) O O (by kernel_rfl) O (by kernel_rfl)) .nil) O) (fun w' hM' hK' => ?_)
   exact ⟨⟨some ⟨q12, 0, none⟩, c.groups.length, d12, some ⟨q18, 0, none⟩, c.refs.length, d18⟩, ⟨⟨rfl, rfl, hd12, hd18⟩, by simp, by simp⟩, rfl, hK', hM'.sel [0, 1] rfl⟩
 ·
  intro g15 _
  try simp only [setN, putD, selM, nth, cw, cx]
  refine aY 6 O O (by kernel_rfl) O [3] (fun _ => rfl) O (by exact bW #[] [] O O Tryz.underlying23 (by kernel_rfl) (by kernel_rfl) O (by decide) O O) ?_
  intro g9 _
  try simp only [setN, putD, selM, nth, cw, cx]
  refine aY 9 O O (by kernel_rfl) O [3] (fun _ => rfl) O (by first | exact bF (by' := 16) 0 [1, 2, 3] O O O O Tryz.underlying23 Tryz.underlying23 (by kernel_rfl) (fun w' _ hK => hg.keepS hK (hno _ _)) (SL.strs_one _) O O O O (by omega) (by omega) | exact bF (by' := 16) 1 [0, 2, 3] O O O O Tryz.underlying23 Tryz.underlying23 (by kernel_rfl) (fun w' _ hK => hg.keepS hK (hno _ _)) (SL.strs_one _) O O O O (by omega) (by omega)) ?_
  intro v12 hv12
  try simp only [setN, putD, selM, nth, cw, cx]
  simp only [List.nil_append, Nat.zero_add, ← hg1]
  refine SL.OkH.rowAddr2 0 O ?_
  rintro (⟨rfl, _⟩ | ⟨q12, d12, rfl, hd12⟩)
  ·
   exact absurd (hv12.1.1 O).1 (by simp)
  refine aY 15 O O (by kernel_rfl) O [3] (fun _ => rfl) O (by first | exact bF (by' := 32) 0 [1, 2, 3] O O O O Tryz.underlying24 Tryz.underlying24 (by kernel_rfl) (fun w' _ hK => hr.keepS hK (hno _ _)) (SL.idsV_one _) O O O O (by omega) (by omega) | exact bF (by' := 32) 1 [0, 2, 3] O O O O Tryz.underlying24 Tryz.underlying24 (by kernel_rfl) (fun w' _ hK => hr.keepS hK (hno _ _)) (SL.idsV_one _) O O O O (by omega) (by omega)) ?_
  intro v18 hv18
  try simp only [setN, putD, selM, nth, cw, cx]
  simp only [List.nil_append, Nat.zero_add, ← hr1]
  refine SL.OkH.rowAddr2 0 O ?_
  rintro (⟨rfl, _⟩ | ⟨q18, d18, rfl, hd18⟩)
  ·
   exact absurd (hv18.1.1 O).1 (by simp)
  refine aG 33 O O O O (by kernel_rfl) (by kernel_rfl) (by kernel_rfl) O (fun _ _ _ h => h) [3] O O (bg [(0, 1), (1, 16), (17, 1), (18, 1), (19, 1), (20, 1), (21, 32), (53, 1), (54, 1), (55, 1), (56, 17), (73, 1), (74, 1)] [Seg.one (str []) rfl, (B.zero 16).seg, Seg.one (.int .i64 0) rfl, Seg.one (.slice none 0 0) rfl, Seg.one (str []) rfl, Seg.one (.slice none 0 0) rfl, (B.zero 32).seg, Seg.one (str []) rfl, Seg.one (str []) rfl, Seg.one (.int .i64 0) rfl, Seg.one (.int .i64 0) rfl, (B.zero 16).seg, Seg.one (.int .i64 0) rfl, Seg.one (str []) rfl] O O (.cons (.one O) (.cons .agg (.cons (.one O) (.cons (.one O) (.cons (.one O) (.cons (.one O) (.cons .agg (.cons (.one O) (.cons (.one O) (.cons (.one O) (.cons .agg (.cons (.one O) (.cons (.one O) .nil))))))))))))) (by kernel_rfl) (by kernel_rfl) O) ?_
  refine aY 34 O O (by kernel_rfl) O [3] (fun _ => rfl) O (by first | exact ap (k := 75) 0 _ O O O O O O (by kernel_rfl) O O | exact ap (k := 75) 1 _ O O O O O O (by kernel_rfl) O O | exact ap (k := 75) 2 _ O O O O O O (by kernel_rfl) O O | exact ap (k := 75) 3 _ O O O O O O (by kernel_rfl) O O) ?_
  intro _ _
  try simp only [setN, putD, selM, nth, cw, cx]
  refine bN (by kernel_rfl) ?_
  refine ae (hK2 _ _ ?_)
  refine aw av (ar O (.cons (by first | exact SL.RV.cellA 0 (k := 75) O O (by kernel_rfl) O (by kernel_rfl) | exact SL.RV.cellA 1 (k := 75) O O (by kernel_rfl) O (by kernel_rfl) | exact SL.RV.cellA 2 (k := 75) O O (by kernel_rfl) O (by kernel_rfl) | exact SL.RV.cellA 3 (k := 75) O O (by kernel_rfl) O (by kernel_rfl)) .nil) O) (fun w' hM' hK' => ?_)
  exact ⟨⟨some ⟨q12, 0, none⟩, c.groups.length, d12, some ⟨q18, 0, none⟩, c.refs.length, d18⟩, ⟨⟨rfl, rfl, hd12, hd18⟩, by simp, by simp⟩, rfl, hK', hM'.sel [0, 1] rfl⟩

theorem sClone2_c (xs : List (List UInt8)) (a : Option Addr) (len cap : Nat) (ha : a ≠ none) (hb : xs.length ≤ 1000000) (w : World) (hR : RC 1 w a len (xs.map str)) :
  Calls Tryz.prog 26 [.slice a len cap].toArray w fun e w' => ∃ y : Nat × Nat × Array Value, FreshRow 1 len (xs.map str) y.2.1 y.2.2 ∧ e = .returned (.slice (some ⟨y.1, 0, none⟩) len y.2.1) ∧ Post w (blocksOf []) [.blk y.1 (.cells y.2.2 9 (0, 0))] w' := by
 have hl : xs.length = len := by simpa using hR.1
 subst hl
 refine aJ (n := 8) (W := (blocksOf [])) (m := []) Tryz.func26 O Tryz.ntmps26 O (aO _ _ _) ?_
 simp only [SL.enum, Nat.reduceAdd]
 refine ah fun K1 hK1 => aj (aa O O O (ak O O) ?_)
 refine ai (ae ?_)
 refine hK1 _ _ (ah fun K2 hK2 => ?_)
 refine ah fun K3 hK3 => aj (aa O O O (af O O) ?_)
 refine aa O O O (SL.Pure.eqSlNil O O O Tryz.underlying23) (ai ?_)
 refine ae (hK3 _ _ ?_)
 refine cf O ((by cases a with
  | none => exact absurd rfl ha
  | some q => rfl)) ?_
 refine aC (ae ?_)
 refine hK2 _ _ (ah fun K4 hK4 => ?_)
 refine aj (am O (by exact SL.Eff.buildSliceE0B (sz := 1) O O Tryz.underlying23 (by kernel_rfl) O) ?_)
 intro g5 _
 try simp only [setN, putD, selM, nth, cw, cx]
 refine aa O O O (af O O) (am O (by exact SL.Eff.appendE0 (by' := 16) 0 [] O O O O Tryz.underlying23 Tryz.underlying23 (by kernel_rfl) (fun w' hM hK => hR.keep (k0 hK)) (fun u hu => by obtain ⟨q, _, rfl⟩ := List.mem_map.1 hu; rfl) O O O O (by omega) (by omega)) ?_)
 intro y7 hy7
 try simp only [setN, putD, selM, nth, cw, cx]
 refine aa O O O (ak O O) (ai ?_)
 refine ae (hK4 _ _ ?_)
 refine aw av (ar O (.cons (.tmp O) .nil) O) (fun w' hM' hK' => ?_)
 exact ⟨y7, hy7, rfl, hK', hM'⟩
theorem iClone2_c (xs : List (B 32)) (a : Option Addr) (len cap : Nat) (ha : a ≠ none) (hb : xs.length ≤ 1000000) (w : World) (hR : RC 32 w a len (idsV xs)) :
  Calls Tryz.prog 27 [.slice a len cap].toArray w fun e w' => ∃ y : Nat × Nat × Array Value, FreshRow 32 len (idsV xs) y.2.1 y.2.2 ∧ e = .returned (.slice (some ⟨y.1, 0, none⟩) len y.2.1) ∧ Post w (blocksOf []) [.blk y.1 (.cells y.2.2 26 (0, 0))] w' := by
 have hl : xs.length = len := by have := hR.1; rw [idsV_len] at this; omega
 subst hl
 refine aJ (n := 8) (W := (blocksOf [])) (m := []) Tryz.func27 O Tryz.ntmps27 O (aO _ _ _) ?_
 simp only [SL.enum, Nat.reduceAdd]
 refine ah fun K1 hK1 => aj (aa O O O (ak O O) ?_)
 refine ai (ae ?_)
 refine hK1 _ _ (ah fun K2 hK2 => ?_)
 refine ah fun K3 hK3 => aj (aa O O O (af O O) ?_)
 refine aa O O O (SL.Pure.eqSlNil O O O Tryz.underlying24) (ai ?_)
 refine ae (hK3 _ _ ?_)
 refine cf O ((by cases a with
  | none => exact absurd rfl ha
  | some q => rfl)) ?_
 refine aC (ae ?_)
 refine hK2 _ _ (ah fun K4 hK4 => ?_)
 refine aj (am O (by exact SL.Eff.buildSliceE0B (sz := 32) O O Tryz.underlying24 (by kernel_rfl) O) ?_)
 intro g5 _
 try simp only [setN, putD, selM, nth, cw, cx]
 refine aa O O O (af O O) (am O (by exact SL.Eff.appendE0 (by' := 32) 0 [] O O O O Tryz.underlying24 Tryz.underlying24 (by kernel_rfl) (fun w' hM hK => hR.keep (k0 hK)) (fun u hu => idsV_one _ u hu) O O O O (by omega) (by omega)) ?_)
 intro y7 hy7
 try simp only [setN, putD, selM, nth, cw, cx]
 refine aa O O O (ak O O) (ai ?_)
 refine ae (hK4 _ _ ?_)
 refine aw av (ar O (.cons (.tmp O) .nil) O) (fun w' hM' hK' => ?_)
 exact ⟨y7, hy7, rfl, hK', hM'⟩
theorem cclone2_c (c : Con) (p : CAt) (hga : p.ga ≠ none) (hra : p.ra ≠ none) (hgl : c.groups.length ≤ 100000) (hrl : c.refs.length ≤ 100000) (w : World) (hR : CRd w c p) :
  Calls Tryz.prog 12 [.agg (flat (cseg c p))].toArray w fun e w' => ∃ y : (Nat × Nat × Array Value) × (Nat × Nat × Array Value), (FreshRow 1 p.gl (c.groups.map str) y.1.2.1 y.1.2.2 ∧ FreshRow 32 p.rl (idsV c.refs) y.2.2.1 y.2.2.2) ∧ e = .returned (.agg (flat (cseg c ⟨some ⟨y.1.1, 0, none⟩, p.gl, y.1.2.1, some ⟨y.2.1, 0, none⟩, p.rl, y.2.2.1⟩))) ∧ Post w (blocksOf []) [.blk y.2.1 (.cells y.2.2.2 26 (0, 0)), .blk y.1.1 (.cells y.1.2.2 9 (0, 0))] w' := by
 obtain ⟨hg, hr, hgc, hrc⟩ := hR
 have hg1 : c.groups.length = p.gl := by simpa using hg.1
 have hr1 : c.refs.length = p.rl := by have := hr.1; rw [idsV_len] at this; omega
 refine aJ (n := 12) (W := (blocksOf [])) (m := []) Tryz.func12 O Tryz.ntmps12 O (aO _ _ _) ?_
 simp only [SL.enum, Nat.reduceAdd]
 refine ah fun K1 hK1 => aj (am O (bh _ O O O O O) ?_)
 intro b1 _
 try simp only [setN, putD, selM, nth, cw, cx]
 refine am O (aX [Seg.one (str []) rfl, (B.zero 16).seg, Seg.one (.int .i64 0) rfl, Seg.one (.slice none 0 0) rfl, Seg.one (str []) rfl, Seg.one (.slice none 0 0) rfl, (B.zero 32).seg, Seg.one (str []) rfl, Seg.one (str []) rfl, Seg.one (.int .i64 0) rfl, Seg.one (.int .i64 0) rfl, (B.zero 16).seg, Seg.one (.int .i64 0) rfl, Seg.one (str []) rfl] O O O (by kernel_rfl)) ?_
 intro b2 _
 try simp only [setN, putD, selM, nth, cw, cx]
 refine ai (ae ?_)
 refine hK1 _ _ (ah fun K2 hK2 => ?_)
 refine ck [] mixed O O ?_
 simp only [List.replicate, List.length_cons, List.length_nil, Nat.reduceAdd, SL.selM, SL.nth]
 refine aG 0 O O O O (by kernel_rfl) (by kernel_rfl) (by kernel_rfl) O (fun _ _ _ h => h) [] O O (au (k := 18) O O (by kernel_rfl) O) ?_
 refine aG 3 O O O O (by kernel_rfl) (by kernel_rfl) (by kernel_rfl) O (fun _ _ _ h => h) [] O O (au (k := 20) O O (by kernel_rfl) O) ?_
 refine SL.OkH.eff2 1 4 O O O O (by kernel_rfl) O O [] (fun _ => rfl) O (bZ O O (by first | exact al 0 O O O O (by kernel_rfl) | exact al 1 O O O O (by kernel_rfl))) [] (fun _ => rfl) O (bZ O O (by first | exact al 0 O O O O (by kernel_rfl) | exact al 1 O O O O (by kernel_rfl))) ?_ ?_
 ·
  intro _ _
  try simp only [setN, putD, selM, nth, cw, cx]
  refine SL.OkH.eff2 2 4 O O O O (by kernel_rfl) O O [] (fun _ => rfl) O (bJ O (aM [] [0, 1] O O (by kernel_rfl) O O O O (fun w hM hK => sClone2_c c.groups p.ga p.gl p.gc hga (by omega) w (hg.keep (k0 hK))))) [] (fun _ => rfl) O (bZ O O (by first | exact al 0 O O O O (by kernel_rfl) | exact al 1 O O O O (by kernel_rfl))) ?_ ?_
  ·
   intro y5 hy5
   try simp only [setN, putD, selM, nth, cw, cx]
   refine aY 4 O O (by kernel_rfl) O [] (fun _ => rfl) O (bZ O O (by first | exact al 0 O O O O (by kernel_rfl) | exact al 1 O O O O (by kernel_rfl) | exact al 2 O O O O (by kernel_rfl))) ?_
   intro _ _
   refine aG 6 O O O O (by kernel_rfl) (by kernel_rfl) (by kernel_rfl) O (fun _ _ _ h => h) [] O O (au (k := 18) O O (by kernel_rfl) O) ?_
   refine aY 5 O O (by kernel_rfl) O [] (fun _ => rfl) O (bJ O (aM [] [0, 1, 2] O O (by kernel_rfl) O O O O (fun w hM hK => iClone2_c c.refs p.ra p.rl p.rc hra (by omega) w (hr.keep (k0 hK))))) ?_
   intro y8 hy8
   try simp only [setN, putD, selM, nth, cw, cx]
   refine aY 7 O O (by kernel_rfl) O [] (fun _ => rfl) O (by first | exact ap (k := 1) 0 [SL.Seg.one _ rfl] O O O O O O (by kernel_rfl) O O | exact ap (k := 1) 1 [SL.Seg.one _ rfl] O O O O O O (by kernel_rfl) O O | exact ap (k := 1) 2 [SL.Seg.one _ rfl] O O O O O O (by kernel_rfl) O O | exact ap (k := 1) 3 [SL.Seg.one _ rfl] O O O O O O (by kernel_rfl) O O) ?_
   intro _ _
   try simp only [setN, putD, selM, nth, cw, cx]
   refine aG 8 O O O O (by kernel_rfl) (by kernel_rfl) (by kernel_rfl) O (fun _ _ _ h => h) [] O O (au (k := 20) O O (by kernel_rfl) O) ?_
   refine aY 9 O O (by kernel_rfl) O [] (fun _ => rfl) O (by first | exact ap (k := 1) 0 [SL.Seg.one _ rfl] O O O O O O (by kernel_rfl) O O | exact ap (k := 1) 1 [SL.Seg.one _ rfl] O O O O O O (by kernel_rfl) O O | exact ap (k := 1) 2 [SL.Seg.one _ rfl] O O O O O O (by kernel_rfl) O O | exact ap (k := 1) 3 [SL.Seg.one _ rfl] O O O O O O (by kernel_rfl) O O) ?_
   intro _ _
   try simp only [setN, putD, selM, nth, cw, cx]
   refine bN (by kernel_rfl) ?_
   refine ae (hK2 _ _ ?_)
   refine ah fun K3 hK3 => aj (aa O O O (by first | exact ay 0 (k := 75) O O O (by kernel_rfl) O (by kernel_rfl) | exact ay 1 (k := 75) O O O (by kernel_rfl) O (by kernel_rfl) | exact ay 2 (k := 75) O O O (by kernel_rfl) O (by kernel_rfl) | exact ay 3 (k := 75) O O O (by kernel_rfl) O (by kernel_rfl)) ?_)
   refine am O (by first | exact ap (k := 75) 0 _ O O O O O O (by kernel_rfl) O O | exact ap (k := 75) 1 _ O O O O O O (by kernel_rfl) O O | exact ap (k := 75) 2 _ O O O O O O (by kernel_rfl) O O | exact ap (k := 75) 3 _ O O O O O O (by kernel_rfl) O O) ?_
   intro _ _
   try simp only [setN, putD, selM, nth, cw, cx]
   refine ai (ae ?_)
   refine hK3 _ _ (aw av (ar O (.cons (by first | exact SL.RV.cellA 0 (k := 75) O O (by kernel_rfl) O (by kernel_rfl) | exact SL.RV.cellA 1 (k := 75) O O (by kernel_rfl) O (by kernel_rfl) | exact SL.RV.cellA 2 (k := 75) O O (by kernel_rfl) O (by kernel_rfl) | exact SL.RV.cellA 3 (k := 75) O O (by kernel_rfl) O (by kernel_rfl)) .nil) O) (fun w' hM' hK' => ?_))
   exact ⟨(y5, y8), ⟨hy5, hy8⟩, rfl, hK', hM'.sel [0, 1] rfl⟩
  ·
   intro _ _
   try simp only [setN, putD, selM, nth, cw, cx]
   refine aY 2 O O (by kernel_rfl) O [] (fun _ => rfl) O (bJ O (aM [] [0, 1] O O (by kernel_rfl) O O O O (fun w hM hK => sClone2_c c.groups p.ga p.gl p.gc hga (by omega) w (hg.keep (k0 hK))))) ?_
   intro y5 hy5
   try simp only [setN, putD, selM, nth, cw, cx]
   refine aG 6 O O O O (by kernel_rfl) (by kernel_rfl) (by kernel_rfl) O (fun _ _ _ h => h) [] O O (au (k := 18) O O (by kernel_rfl) O) ?_
   refine aY 5 O O (by kernel_rfl) O [] (fun _ => rfl) O (bJ O (aM [] [0, 1, 2] O O (by kernel_rfl) O O O O (fun w hM hK => iClone2_c c.refs p.ra p.rl p.rc hra (by omega) w (hr.keep (k0 hK))))) ?_
   intro y8 hy8
   try simp only [setN, putD, selM, nth, cw, cx]
   refine aY 7 O O (by kernel_rfl) O [] (fun _ => rfl) O (by first | exact ap (k := 1) 0 [SL.Seg.one _ rfl] O O O O O O (by kernel_rfl) O O | exact ap (k := 1) 1 [SL.Seg.one _ rfl] O O O O O O (by kernel_rfl) O O | exact ap (k := 1) 2 [SL.Seg.one _ rfl] O O O O O O (by kernel_rfl) O O | exact ap (k := 1) 3 [SL.Seg.one _ rfl] O O O O O O (by kernel_rfl) O O) ?_
   intro _ _
   try simp only [setN, putD, selM, nth, cw, cx]
   refine aG 8 O O O O (by kernel_rfl) (by kernel_rfl) (by kernel_rfl) O (fun _ _ _ h => h) [] O O (au (k := 20) O O (by kernel_rfl) O) ?_
   refine aY 9 O O (by kernel_rfl) O [] (fun _ => rfl) O (by first | exact ap (k := 1) 0 [SL.Seg.one _ rfl] O O O O O O (by kernel_rfl) O O | exact ap (k := 1) 1 [SL.Seg.one _ rfl] O O O O O O (by kernel_rfl) O O | exact ap (k := 1) 2 [SL.Seg.one _ rfl] O O O O O O (by kernel_rfl) O O | exact ap (k := 1) 3 [SL.Seg.one _ rfl] O O O O O O (by kernel_rfl) O O) ?_
   intro _ _
   try simp only [setN, putD, selM, nth, cw, cx]
   refine bN (by kernel_rfl) ?_
   refine ae (hK2 _ _ ?_)
   refine ah fun K4 hK4 => aj (aa O O O (by first | exact ay 0 (k := 75) O O O (by kernel_rfl) O (by kernel_rfl) | exact ay 1 (k := 75) O O O (by kernel_rfl) O (by kernel_rfl) | exact ay 2 (k := 75) O O O (by kernel_rfl) O (by kernel_rfl) | exact ay 3 (k := 75) O O O (by kernel_rfl) O (by kernel_rfl)) ?_)
   refine am O (by first | exact ap (k := 75) 0 _ O O O O O O (by kernel_rfl) O O | exact ap (k := 75) 1 _ O O O O O O (by kernel_rfl) O O | exact ap (k := 75) 2 _ O O O O O O (by kernel_rfl) O O | exact ap (k := 75) 3 _ O O O O O O (by kernel_rfl) O O) ?_
   intro _ _
   try simp only [setN, putD, selM, nth, cw, cx]
   refine ai (ae ?_)
   refine hK4 _ _ (aw av (ar O (.cons (by first | exact SL.RV.cellA 0 (k := 75) O O (by kernel_rfl) O (by kernel_rfl) | exact SL.RV.cellA 1 (k := 75) O O (by kernel_rfl) O (by kernel_rfl) | exact SL.RV.cellA 2 (k := 75) O O (by kernel_rfl) O (by kernel_rfl) | exact SL.RV.cellA 3 (k := 75) O O (by kernel_rfl) O (by kernel_rfl)) .nil) O) (fun w' hM' hK' => ?_))
   exact ⟨(y5, y8), ⟨hy5, hy8⟩, rfl, hK', hM'.sel [0, 1] rfl⟩
 ·
  intro _ _
  try simp only [setN, putD, selM, nth, cw, cx]
  refine aY 1 O O (by kernel_rfl) O [] (fun _ => rfl) O (bZ O O (by first | exact al 0 O O O O (by kernel_rfl) | exact al 1 O O O O (by kernel_rfl))) ?_
  intro _ _
  refine aY 2 O O (by kernel_rfl) O [] (fun _ => rfl) O (bJ O (aM [] [0, 1] O O (by kernel_rfl) O O O O (fun w hM hK => sClone2_c c.groups p.ga p.gl p.gc hga (by omega) w (hg.keep (k0 hK))))) ?_
  intro y5 hy5
  try simp only [setN, putD, selM, nth, cw, cx]
  refine aG 6 O O O O (by kernel_rfl) (by kernel_rfl) (by kernel_rfl) O (fun _ _ _ h => h) [] O O (au (k := 18) O O (by kernel_rfl) O) ?_
  refine aY 5 O O (by kernel_rfl) O [] (fun _ => rfl) O (bJ O (aM [] [0, 1, 2] O O (by kernel_rfl) O O O O (fun w hM hK => iClone2_c c.refs p.ra p.rl p.rc hra (by omega) w (hr.keep (k0 hK))))) ?_
  intro y8 hy8
  try simp only [setN, putD, selM, nth, cw, cx]
  refine aY 7 O O (by kernel_rfl) O [] (fun _ => rfl) O (by first | exact ap (k := 1) 0 [SL.Seg.one _ rfl] O O O O O O (by kernel_rfl) O O | exact ap (k := 1) 1 [SL.Seg.one _ rfl] O O O O O O (by kernel_rfl) O O | exact ap (k := 1) 2 [SL.Seg.one _ rfl] O O O O O O (by kernel_rfl) O O | exact ap (k := 1) 3 [SL.Seg.one _ rfl] O O O O O O (by kernel_rfl) O O) ?_
  intro _ _
  try simp only [setN, putD, selM, nth, cw, cx]
  refine aG 8 O O O O (by kernel_rfl) (by kernel_rfl) (by kernel_rfl) O (fun _ _ _ h => h) [] O O (au (k := 20) O O (by kernel_rfl) O) ?_
  refine aY 9 O O (by kernel_rfl) O [] (fun _ => rfl) O (by first | exact ap (k := 1) 0 [SL.Seg.one _ rfl] O O O O O O (by kernel_rfl) O O | exact ap (k := 1) 1 [SL.Seg.one _ rfl] O O O O O O (by kernel_rfl) O O | exact ap (k := 1) 2 [SL.Seg.one _ rfl] O O O O O O (by kernel_rfl) O O | exact ap (k := 1) 3 [SL.Seg.one _ rfl] O O O O O O (by kernel_rfl) O O) ?_
  intro _ _
  try simp only [setN, putD, selM, nth, cw, cx]
  refine bN (by kernel_rfl) ?_
  refine ae (hK2 _ _ ?_)
  refine ah fun K5 hK5 => aj (aa O O O (by first | exact ay 0 (k := 75) O O O (by kernel_rfl) O (by kernel_rfl) | exact ay 1 (k := 75) O O O (by kernel_rfl) O (by kernel_rfl) | exact ay 2 (k := 75) O O O (by kernel_rfl) O (by kernel_rfl) | exact ay 3 (k := 75) O O O (by kernel_rfl) O (by kernel_rfl)) ?_)
  refine am O (by first | exact ap (k := 75) 0 _ O O O O O O (by kernel_rfl) O O | exact ap (k := 75) 1 _ O O O O O O (by kernel_rfl) O O | exact ap (k := 75) 2 _ O O O O O O (by kernel_rfl) O O | exact ap (k := 75) 3 _ O O O O O O (by kernel_rfl) O O) ?_
  intro _ _
  try simp only [setN, putD, selM, nth, cw, cx]
  refine ai (ae ?_)
  refine hK5 _ _ (aw av (ar O (.cons (by first | exact SL.RV.cellA 0 (k := 75) O O (by kernel_rfl) O (by kernel_rfl) | exact SL.RV.cellA 1 (k := 75) O O (by kernel_rfl) O (by kernel_rfl) | exact SL.RV.cellA 2 (k := 75) O O (by kernel_rfl) O (by kernel_rfl) | exact SL.RV.cellA 3 (k := 75) O O (by kernel_rfl) O (by kernel_rfl)) .nil) O) (fun w' hM' hK' => ?_))
  exact ⟨(y5, y8), ⟨hy5, hy8⟩, rfl, hK', hM'.sel [0, 1] rfl⟩
end Go.Proofs.YthfhhkanpnemcaaGreatDoor
namespace Go.SL
theorem Pure.conv {P : Program} {n : Nat} {W : Nat → Prop} {w0 : World} {l : List (Nat × Value)} {m : List Res} {o : Oper} {v v' : Value} (h : v = v') (hp : Pure P n W w0 l m o v) : Pure P n W w0 l m o v' := h ▸ hp
end Go.SL
namespace Go.Proofs.YthfhhkanpnemcaaGreatDoor
open Go.SL Go.RowKit IntWalk
set_option linter.unusedVariables false
set_option maxRecDepth 100000
set_option linter.unusedSimpArgs false
set_option maxHeartbeats 1000000

def collB (a b : Con) : Bool := decide (checkM a = 0) && decide (checkM b = 0) && decide (idB a = idB b) && !decide (a = b)
theorem collision_c (a b : Con) (p q : CAt) (ha : CBF a) (hb : CBF b) (w : World) (hG : Glob w) (hA : CRd w a p) (hB : CRd w b q) :
  Calls Tryz.prog 6 [.agg (flat (cseg a p)), .agg (flat (cseg b q))].toArray w fun e w' => e = .returned (.tuple #[str (if collB a b then formP a else []), str (if collB a b then formP b else []), .bool (collB a b)]) ∧ Keeps none1 w w' := by
 refine aJ (n := 53) (W := SL.none1) (m := []) Tryz.func6 O Tryz.ntmps6 O (aO _ _ _) ?_
 simp only [SL.enum, Nat.reduceAdd]
 refine ah fun K1 hK1 => aj (am O (bh _ O O O O O) ?_)
 intro b2 _
 try simp only [setN, putD, selM, nth, cw, cx]
 refine am O (bh _ O O O O O) ?_
 intro b3 _
 try simp only [setN, putD, selM, nth, cw, cx]
 refine aa O O O (ak O O) (aa O O O (ak O O) ?_)
 refine aa O O O (ak O O) (ai ?_)
 refine ae (hK1 _ _ ?_)
 refine ah fun K2 hK2 => aj (aa O O O (by first | exact ay 0 (k := 75) O O O (by kernel_rfl) O (by kernel_rfl) | exact ay 1 (k := 75) O O O (by kernel_rfl) O (by kernel_rfl)) ?_)
 refine am O (aN O O (by kernel_rfl) O O (fun w hM hK => cid_c a p ha w (hG.keep hK) (hA.keep hK))) ?_
 intro _ _
 try simp only [setN, putD, selM, nth, cw, cx]
 refine aa O O O (af O O) (aa O O O (aW O O O) ?_)
 refine aa O O O (aW O O O) (am O (aX [(B.zero 32).seg] O O O (by kernel_rfl)) ?_)
 intro b7 _
 try simp only [setN, putD, selM, nth, cw, cx]
 refine am O (by first | exact ap (k := 32) 0 _ O O O O O O (by kernel_rfl) O O | exact ap (k := 32) 1 _ O O O O O O (by kernel_rfl) O O | exact ap (k := 32) 2 _ O O O O O O (by kernel_rfl) O O) ?_
 intro _ _
 try simp only [setN, putD, selM, nth, cw, cx]
 refine aa O O O (ak O O) (ai ?_)
 refine ae (hK2 _ _ ?_)
 refine ah fun K3 hK3 => aj (aa O O O (by first | exact ay 0 (k := 75) O O O (by kernel_rfl) O (by kernel_rfl) | exact ay 1 (k := 75) O O O (by kernel_rfl) O (by kernel_rfl) | exact ay 2 (k := 75) O O O (by kernel_rfl) O (by kernel_rfl)) ?_)
 refine am O (aN O O (by kernel_rfl) O O (fun w hM hK => cid_c b q hb w (hG.keep hK) (hB.keep hK))) ?_
 intro _ _
 try simp only [setN, putD, selM, nth, cw, cx]
 refine aa O O O (af O O) (aa O O O (aW O O O) ?_)
 refine aa O O O (aW O O O) (am O (aX [(B.zero 32).seg] O O O (by kernel_rfl)) ?_)
 intro b9 _
 try simp only [setN, putD, selM, nth, cw, cx]
 refine am O (by first | exact ap (k := 32) 0 _ O O O O O O (by kernel_rfl) O O | exact ap (k := 32) 1 _ O O O O O O (by kernel_rfl) O O | exact ap (k := 32) 2 _ O O O O O O (by kernel_rfl) O O | exact ap (k := 32) 3 _ O O O O O O (by kernel_rfl) O O) ?_
 intro _ _
 try simp only [setN, putD, selM, nth, cw, cx]
 refine aa O O O (ak O O) (ai ?_)
 refine ae (hK3 _ _ ?_)
 refine ah fun K4 hK4 => ah fun K5 hK5 => aj (aa O O O (af O O) ?_)
 refine aa O O O (bl O O O) (aa O O O (af O O) ?_)
 refine aR (d := 27) O (fun hg27 => ?_) (fun hg27 => ?_)
 ·
  have h1 : ¬ checkM a = 0 := by simpa using hg27
  have hc : collB a b = false := by rw [collB, decide_eq_false h1]; rfl
  refine ag O O O O O O O (ag O O O O O O O ?_)
  refine aa O O O (aF O O O) (aa O O O (af O O) ?_)
  refine ag O O O O O O O (ag O O O O O O O ?_)
  refine ag O O O O O O O (aa O O O (aF O O O) ?_)
  refine aa O O O (af O O) (ag O O O O O O O ?_)
  refine ag O O O O O O O (ag O O O O O O O ?_)
  refine aa O O O (aF O O O) (ai ?_)
  refine ae (hK5 _ _ ?_)
  refine bk O (ah fun K6 hK6 => ?_)
  refine aj (aa O O O (ak O O) ?_)
  refine aa O O O (ak O O) (aa O O O (ak O O) ?_)
  refine ai (ae ?_)
  refine hK6 _ _ (aw (aB av) (ar O (.cons (.tmp O) (.cons (.tmp O) (.cons (.tmp O) .nil))) O) (fun w' hM' hK' => ?_))
  exact ⟨by rw [hc]; rfl, hK'⟩
 ·
  have h1 : checkM a = 0 := by simpa using hg27
  refine aq O O O O O O O (af O O) (aq O O O O O O O (bl O O O) ?_)
  refine aa O O O (aE O O O) (aa O O O (af O O) ?_)
  refine aR (d := 31) O (fun hg31 => ?_) (fun hg31 => ?_)
  ·
   have h2 : ¬ checkM b = 0 := by simpa using hg31
   have hc : collB a b = false := by rw [collB, decide_eq_false h2, Bool.and_false]; rfl
   refine ag O O O O O O O (ag O O O O O O O ?_)
   refine ag O O O O O O O (aa O O O (aF O O O) ?_)
   refine aa O O O (af O O) (ag O O O O O O O ?_)
   refine ag O O O O O O O (ag O O O O O O O ?_)
   refine aa O O O (aF O O O) (ai ?_)
   refine ae (hK5 _ _ ?_)
   refine bk O (ah fun K7 hK7 => ?_)
   refine aj (aa O O O (ak O O) ?_)
   refine aa O O O (ak O O) (aa O O O (ak O O) ?_)
   refine ai (ae ?_)
   refine hK7 _ _ (aw (aB av) (ar O (.cons (.tmp O) (.cons (.tmp O) (.cons (.tmp O) .nil))) O) (fun w' hM' hK' => ?_))
   exact ⟨by rw [hc]; rfl, hK'⟩
  ·
   have h2 : checkM b = 0 := by simpa using hg31
   refine aq O O O O O O O (by first | exact ay 0 (k := 32) O O O (by kernel_rfl) O (by kernel_rfl) | exact ay 1 (k := 32) O O O (by kernel_rfl) O (by kernel_rfl) | exact ay 2 (k := 32) O O O (by kernel_rfl) O (by kernel_rfl) | exact ay 3 (k := 32) O O O (by kernel_rfl) O (by kernel_rfl)) ?_
   refine aq O O O O O O O (by first | exact ay 0 (k := 32) O O O (by kernel_rfl) O (by kernel_rfl) | exact ay 1 (k := 32) O O O (by kernel_rfl) O (by kernel_rfl) | exact ay 2 (k := 32) O O O (by kernel_rfl) O (by kernel_rfl) | exact ay 3 (k := 32) O O O (by kernel_rfl) O (by kernel_rfl)) ?_
   refine aq O O O O O O O (SL.Pure.neB O O O Tryz.underlying26 Tryz.underlying5 (by kernel_rfl) (by kernel_rfl)) ?_
   refine aa O O O (aE O O O) (aa O O O (af O O) ?_)
   refine aR (d := 36) O (fun hg36 => ?_) (fun hg36 => ?_)
   ·
    have h3 : ¬ idB a = idB b := by simpa using hg36
    have hc : collB a b = false := by rw [collB, decide_eq_false h3, Bool.and_false]; rfl
    refine ag O O O O O O O (ag O O O O O O O ?_)
    refine ag O O O O O O O (aa O O O (aF O O O) ?_)
    refine ai (ae ?_)
    refine hK5 _ _ (bk O ?_)
    refine ah fun K8 hK8 => aj (aa O O O (ak O O) ?_)
    refine aa O O O (ak O O) (aa O O O (ak O O) ?_)
    refine ai (ae ?_)
    refine hK8 _ _ (aw (aB av) (ar O (.cons (.tmp O) (.cons (.tmp O) (.cons (.tmp O) .nil))) O) (fun w' hM' hK' => ?_))
    exact ⟨by rw [hc]; rfl, hK'⟩
   ·
    have h3 : idB a = idB b := by simpa using hg36
    refine aq O O O O O O O (by first | exact ay 0 (k := 75) O O O (by kernel_rfl) O (by kernel_rfl) | exact ay 1 (k := 75) O O O (by kernel_rfl) O (by kernel_rfl) | exact ay 2 (k := 75) O O O (by kernel_rfl) O (by kernel_rfl) | exact ay 3 (k := 75) O O O (by kernel_rfl) O (by kernel_rfl)) ?_
    refine aq O O O O O O O (by first | exact ay 0 (k := 75) O O O (by kernel_rfl) O (by kernel_rfl) | exact ay 1 (k := 75) O O O (by kernel_rfl) O (by kernel_rfl) | exact ay 2 (k := 75) O O O (by kernel_rfl) O (by kernel_rfl) | exact ay 3 (k := 75) O O O (by kernel_rfl) O (by kernel_rfl)) ?_
    refine SL.Ok.effG O O O O O (aN O O (by kernel_rfl) O O (fun w hM hK => cequal_c a b p q w (hA.keep hK) (hB.keep hK))) ?_
    intro _ _
    simp only [setN, putD, selM, nth, cw, cx]
    refine aa O O O (aE O O O) (ai ?_)
    refine ae (hK5 _ _ ?_)
    refine aH O (fun hc40 => ?_) (fun hc40 => ?_)
    ·
     have h4 : a = b := by simpa using hc40
     have hc : collB a b = false := by rw [collB, decide_eq_true h4]; simp
     refine ah fun K9 hK9 => aj (aa O O O (ak O O) ?_)
     refine aa O O O (ak O O) (aa O O O (ak O O) ?_)
     refine ai (ae ?_)
     refine hK9 _ _ (aw (aB av) (ar O (.cons (.tmp O) (.cons (.tmp O) (.cons (.tmp O) .nil))) O) (fun w' hM' hK' => ?_))
     exact ⟨by rw [hc]; rfl, hK'⟩
    ·
     have h4 : ¬ a = b := by simpa using hc40
     have hc : collB a b = true := by rw [collB, decide_eq_true h1, decide_eq_true h2, decide_eq_true h3, decide_eq_false h4]; rfl
     have hfa : frmS a = formP a := if_pos h1
     have hfb : frmS b = formP b := if_pos h2
     refine aC (ae ?_)
     refine hK4 _ _ (ah fun K10 hK10 => ?_)
     refine aj (aa O O O (by first | exact ay 0 (k := 75) O O O (by kernel_rfl) O (by kernel_rfl) | exact ay 1 (k := 75) O O O (by kernel_rfl) O (by kernel_rfl) | exact ay 2 (k := 75) O O O (by kernel_rfl) O (by kernel_rfl) | exact ay 3 (k := 75) O O O (by kernel_rfl) O (by kernel_rfl)) ?_)
     refine am O (aN O O (by kernel_rfl) O O (fun w hM hK => form_c a p ha w (hG.keep hK) (hA.keep hK))) ?_
     intro _ _
     try simp only [setN, putD, selM, nth, cw, cx]
     refine aa O O O (af O O) (aa O O O (aW O O O) ?_)
     refine aa O O O (aW O O O) (aa O O O (ak O O) ?_)
     refine aa O O O (ak O O) (ai ?_)
     refine ae (hK10 _ _ ?_)
     refine ah fun K11 hK11 => aj (aa O O O (by first | exact ay 0 (k := 75) O O O (by kernel_rfl) O (by kernel_rfl) | exact ay 1 (k := 75) O O O (by kernel_rfl) O (by kernel_rfl) | exact ay 2 (k := 75) O O O (by kernel_rfl) O (by kernel_rfl) | exact ay 3 (k := 75) O O O (by kernel_rfl) O (by kernel_rfl)) ?_)
     refine am O (aN O O (by kernel_rfl) O O (fun w hM hK => form_c b q hb w (hG.keep hK) (hB.keep hK))) ?_
     intro _ _
     try simp only [setN, putD, selM, nth, cw, cx]
     refine aa O O O (af O O) (aa O O O (aW O O O) ?_)
     refine aa O O O (aW O O O) (aa O O O (ak O O) ?_)
     refine aa O O O (ak O O) (ai ?_)
     refine ae (hK11 _ _ ?_)
     refine ah fun K12 hK12 => aj (aa O O O (af O O) ?_)
     refine aa O O O (af O O) (aa O O O (ak O O) ?_)
     refine aa O O O (ak O O) (aa O O O (ak O O) ?_)
     refine ai (ae ?_)
     refine hK12 _ _ (aw av (ar O (.cons (.tmp O) (.cons (.tmp O) (.cons (.tmp O) .nil))) O) (fun w' hM' hK' => ?_))
     exact ⟨by rw [hc, if_pos rfl, if_pos rfl, ← hfa, ← hfb]; rfl, hK'⟩

theorem ex_fits (s : List UInt8) (hs : s.length ≤ 100) : CBF (exC s) := ⟨show (3 : Nat) ≤ 10000 by decide, by show s.length ≤ 10000; omega, show (0 : Nat) ≤ 10000 by decide, show (0 : Nat) ≤ 10000 by decide, show (0 : Nat) ≤ 1000000 by decide, show (1 : Nat) ≤ 1000 by decide, show (3 : Nat) ≤ 10000 by decide, fun x hx => by simp only [exC, List.mem_singleton] at hx; subst hx; decide, show (0 : Nat) ≤ 1000 by decide⟩
abbrev exP (g : Nat) : CAt := ⟨some ⟨g, 0, none⟩, 1, 1, none, 0, 0⟩
abbrev au16 : List Seg := [Seg.one (.int .u8 1) rfl, Seg.one (.int .u8 0) rfl, Seg.one (.int .u8 0) rfl, Seg.one (.int .u8 0) rfl, Seg.one (.int .u8 0) rfl, Seg.one (.int .u8 0) rfl, Seg.one (.int .u8 0) rfl, Seg.one (.int .u8 0) rfl, Seg.one (.int .u8 0) rfl, Seg.one (.int .u8 0) rfl, Seg.one (.int .u8 0) rfl, Seg.one (.int .u8 0) rfl, Seg.one (.int .u8 0) rfl, Seg.one (.int .u8 0) rfl, Seg.one (.int .u8 0) rfl, Seg.one (.int .u8 0) rfl]
theorem au16_eq : flat au16 = flat [au1.seg] := by rfl
theorem known_c (w : World) (hG : Glob w) : Calls Tryz.prog 4 (#[] : Array Value) w fun e w' => e = .returned (.bool true) ∧ Keeps none1 w w' := by
 have hC : ∀ (s : List UInt8) (g : Nat) (w' : World), RC 1 w' (some ⟨g, 0, none⟩) 1 [str [97, 46, 98]] → CRd w' (exC s) (exP g) := fun s g w' h => ⟨h, RC.nil 32 _ _, Nat.le_refl _, Nat.le_refl _⟩
 refine aJ (n := 47) (W := SL.none1) (m := []) Tryz.func4 O Tryz.ntmps4 O (aO _ _ _) ?_
 simp only [SL.enum, Nat.reduceAdd]
 refine ah fun K1 hK1 => aj (aa O O O (ak O O) ?_)
 refine ai (ae ?_)
 refine hK1 _ _ (ah fun K2 hK2 => ?_)
 refine aj (aa O O O (SL.Pure.conv (v' := .agg (flat [au1.seg])) (by rfl) (bg [(0, 1), (1, 1), (2, 1), (3, 1), (4, 1), (5, 1), (6, 1), (7, 1), (8, 1), (9, 1), (10, 1), (11, 1), (12, 1), (13, 1), (14, 1), (15, 1)] [Seg.one (.int .u8 0) rfl, Seg.one (.int .u8 0) rfl, Seg.one (.int .u8 0) rfl, Seg.one (.int .u8 0) rfl, Seg.one (.int .u8 0) rfl, Seg.one (.int .u8 0) rfl, Seg.one (.int .u8 0) rfl, Seg.one (.int .u8 0) rfl, Seg.one (.int .u8 0) rfl, Seg.one (.int .u8 0) rfl, Seg.one (.int .u8 0) rfl, Seg.one (.int .u8 0) rfl, Seg.one (.int .u8 0) rfl, Seg.one (.int .u8 0) rfl, Seg.one (.int .u8 0) rfl, Seg.one (.int .u8 0) rfl] O O (.cons (.one O) .nil) (by kernel_rfl) (by kernel_rfl) O)) ?_)
 refine am O (by exact bW #[str []] [str [97, 46, 98]] O O Tryz.underlying23 (by kernel_rfl) (by kernel_rfl) O (by decide) O O) ?_
 intro g9 _
 try simp only [setN, putD, selM, nth, cw, cx]
 refine aa O O O (bg [(0, 1), (1, 16)] [Seg.one (.int .i64 0) rfl, (B.zero 16).seg] O O (.cons (.one O) .nil) (by kernel_rfl) (by kernel_rfl) O) ?_
 refine aa O O O (bg [(0, 1), (1, 16), (17, 1), (18, 1), (19, 1), (20, 1), (21, 32), (53, 1), (54, 1), (55, 1), (56, 17), (73, 1), (74, 1)] [Seg.one (str []) rfl, (B.zero 16).seg, Seg.one (.int .i64 0) rfl, Seg.one (.slice none 0 0) rfl, Seg.one (str []) rfl, Seg.one (.slice none 0 0) rfl, (B.zero 32).seg, Seg.one (str []) rfl, Seg.one (str []) rfl, Seg.one (.int .i64 0) rfl, Seg.one (.int .i64 0) rfl, (B.zero 16).seg, Seg.one (.int .i64 0) rfl, Seg.one (str []) rfl] O O (.cons (.one O) (.cons .agg (.cons (.one O) (.cons (.one O) (.cons .agg .nil))))) (by kernel_rfl) (by kernel_rfl) O) ?_
 refine am O (aX [Seg.one (str []) rfl, (B.zero 16).seg, Seg.one (.int .i64 0) rfl, Seg.one (.slice none 0 0) rfl, Seg.one (str []) rfl, Seg.one (.slice none 0 0) rfl, (B.zero 32).seg, Seg.one (str []) rfl, Seg.one (str []) rfl, Seg.one (.int .i64 0) rfl, Seg.one (.int .i64 0) rfl, (B.zero 16).seg, Seg.one (.int .i64 0) rfl, Seg.one (str []) rfl] O O O (by kernel_rfl)) ?_
 intro b1 _
 try simp only [setN, putD, selM, nth, cw, cx]
 refine am O (by first | exact ap (k := 75) 0 _ O O O O O O (by kernel_rfl) O O | exact ap (k := 75) 1 _ O O O O O O (by kernel_rfl) O O) ?_
 intro _ _
 try simp only [setN, putD, selM, nth, cw, cx]
 refine ai (ae ?_)
 refine hK2 _ _ (ah fun K3 hK3 => ?_)
 refine aj (aa O O O (by first | exact ay 0 (k := 75) O O O (by kernel_rfl) O (by kernel_rfl) | exact ay 1 (k := 75) O O O (by kernel_rfl) O (by kernel_rfl)) ?_)
 refine am O (aN O O (by kernel_rfl) O O (fun w hM hK => form_c (exC tea) (exP g9) (ex_fits tea (by decide)) w (hG.keep hK) (hC tea g9 w (bK (i := 1) O hM)))) ?_
 intro _ _
 try simp only [setN, putD, selM, nth, cw, cx]
 simp only [ex_check1, show frmS (exC tea) = exF1 from (if_pos ex_check1).trans ex_form1]
 refine aa O O O (af O O) (aa O O O (aW O O O) ?_)
 refine aa O O O (aW O O O) (aa O O O (ak O O) ?_)
 refine aa O O O (ak O O) (ai ?_)
 refine ae (hK3 _ _ ?_)
 refine ah fun K4 hK4 => aj (aa O O O (by first | exact ay 0 (k := 75) O O O (by kernel_rfl) O (by kernel_rfl) | exact ay 1 (k := 75) O O O (by kernel_rfl) O (by kernel_rfl)) ?_)
 refine am O (aN O O (by kernel_rfl) O O (fun w hM hK => cid_c (exC tea) (exP g9) (ex_fits tea (by decide)) w (hG.keep hK) (hC tea g9 w (bK (i := 1) O hM)))) ?_
 intro _ _
 try simp only [setN, putD, selM, nth, cw, cx]
 simp only [ex_check1, show idB (exC tea) = sha exF1 from (if_pos ex_check1).trans (by rw [ex_form1])]
 refine aa O O O (af O O) (aa O O O (aW O O O) ?_)
 refine aa O O O (aW O O O) (am O (aX [(B.zero 32).seg] O O O (by kernel_rfl)) ?_)
 intro b4 _
 try simp only [setN, putD, selM, nth, cw, cx]
 refine am O (by first | exact ap (k := 32) 0 _ O O O O O O (by kernel_rfl) O O | exact ap (k := 32) 1 _ O O O O O O (by kernel_rfl) O O | exact ap (k := 32) 2 _ O O O O O O (by kernel_rfl) O O) ?_
 intro _ _
 try simp only [setN, putD, selM, nth, cw, cx]
 refine aa O O O (ak O O) (ai ?_)
 refine ae (hK4 _ _ ?_)
 refine ah fun K5 hK5 => aj (aa O O O (au (k := 19) O O (by kernel_rfl) O) ?_)
 refine am O (by first | exact ap (k := 1) 0 [SL.Seg.one _ rfl] O O O O O O (by kernel_rfl) O O | exact ap (k := 1) 1 [SL.Seg.one _ rfl] O O O O O O (by kernel_rfl) O O | exact ap (k := 1) 2 [SL.Seg.one _ rfl] O O O O O O (by kernel_rfl) O O) ?_
 intro _ _
 try simp only [setN, putD, selM, nth, cw, cx]
 refine ai (ae ?_)
 refine hK5 _ _ (ah fun K6 hK6 => ?_)
 refine aj (aa O O O (by first | exact ay 0 (k := 75) O O O (by kernel_rfl) O (by kernel_rfl) | exact ay 1 (k := 75) O O O (by kernel_rfl) O (by kernel_rfl) | exact ay 2 (k := 75) O O O (by kernel_rfl) O (by kernel_rfl)) ?_)
 refine am O (aN O O (by kernel_rfl) O O (fun w hM hK => cid_c (exC ten) (exP g9) (ex_fits ten (by decide)) w (hG.keep hK) (hC ten g9 w (bK (i := 2) O hM)))) ?_
 intro _ _
 try simp only [setN, putD, selM, nth, cw, cx]
 simp only [ex_check2, show idB (exC ten) = sha exF2 from (if_pos ex_check2).trans (by rw [ex_form2])]
 refine aa O O O (af O O) (aa O O O (aW O O O) ?_)
 refine aa O O O (aW O O O) (am O (aX [(B.zero 32).seg] O O O (by kernel_rfl)) ?_)
 intro b6 _
 try simp only [setN, putD, selM, nth, cw, cx]
 refine am O (by first | exact ap (k := 32) 0 _ O O O O O O (by kernel_rfl) O O | exact ap (k := 32) 1 _ O O O O O O (by kernel_rfl) O O | exact ap (k := 32) 2 _ O O O O O O (by kernel_rfl) O O | exact ap (k := 32) 3 _ O O O O O O (by kernel_rfl) O O) ?_
 intro _ _
 try simp only [setN, putD, selM, nth, cw, cx]
 refine aa O O O (ak O O) (ai ?_)
 refine ae (hK6 _ _ ?_)
 refine ah fun K7 hK7 => aj (aa O O O (af O O) ?_)
 refine aa O O O (bt O O O) (aa O O O (af O O) ?_)
 refine SL.Ok.setT (d := 30) O ((by decide)) ?_
 refine aq O O O O O O O (af O O) (SL.Ok.effG O O O O O (aN O O (by kernel_rfl) O O (fun w hM hK => hasPrefix_c exF1 [110, 97, 109, 101, 32, 65, 110, 110, 10, 97, 117, 116, 104, 111, 114, 32, 48, 49, 48, 48] w (by decide) (by decide))) ?_)
 intro _ _
 simp only [setN, putD, selM, nth, cw, cx]
 refine aa O O O (aF O O O) (aa O O O (af O O) ?_)
 refine SL.Ok.setT (d := 34) O (ex_pfx) (aq O O O O O O O (af O O) ?_)
 refine aq O O O O O O O (bt O O O) (aa O O O (aF O O O) ?_)
 refine aa O O O (af O O) (SL.Ok.setT (d := 38) O ((by decide)) ?_)
 refine aq O O O O O O O (af O O) (aq O O O O O O O (bt O O O) ?_)
 refine aa O O O (aF O O O) (aa O O O (af O O) ?_)
 refine SL.Ok.setT (d := 42) O ((by decide)) ?_
 refine aq O O O O O O O (by first | exact ay 0 (k := 32) O O O (by kernel_rfl) O (by kernel_rfl) | exact ay 1 (k := 32) O O O (by kernel_rfl) O (by kernel_rfl) | exact ay 2 (k := 32) O O O (by kernel_rfl) O (by kernel_rfl) | exact ay 3 (k := 32) O O O (by kernel_rfl) O (by kernel_rfl)) ?_
 refine aq O O O O O O O (by first | exact ay 0 (k := 32) O O O (by kernel_rfl) O (by kernel_rfl) | exact ay 1 (k := 32) O O O (by kernel_rfl) O (by kernel_rfl) | exact ay 2 (k := 32) O O O (by kernel_rfl) O (by kernel_rfl) | exact ay 3 (k := 32) O O O (by kernel_rfl) O (by kernel_rfl)) ?_
 refine aq O O O O O O O (SL.Pure.neB O O O Tryz.underlying26 Tryz.underlying5 (by kernel_rfl) (by kernel_rfl)) ?_
 refine aa O O O (aF O O O) (aa O O O (ak O O) ?_)
 refine ai (ae ?_)
 refine hK7 _ _ (aw av (ar O (.cons (.tmp O) .nil) O) (fun w' hM' hK' => ?_))
 exact ⟨by rw [decide_eq_false ex_ne]; rfl, hK'⟩
end Go.Proofs.YthfhhkanpnemcaaGreatDoor
namespace Go.Proofs.YthfhhkanpnemcaaGreatDoor
open Go.SL Go.RowKit IntWalk
set_option linter.unusedVariables false
set_option maxRecDepth 100000
set_option linter.unusedSimpArgs false
set_option maxHeartbeats 1000000

/-- the sum of lengths, as the machine counts -/
def fitN (xs : List (List UInt8)) : Nat → Int
 | 0 => 0
 | i + 1 => IntKind.i64.wrap (fitN xs i + ((xs.getD i []).length : Int))
def fitB (c : Con) : Bool := decide (c.groups.length ≤ 30) && (decide (fitN c.groups c.groups.length ≤ 3000) && (decide (c.refs.length ≤ 30) && (decide (c.name.length + c.subj.length + c.ctl.length + c.dist.length ≤ 2000) && decide (c.body.length ≤ 2000))))
/-- texts as long as an argument's may be -/
structure CIn (c : Con) : Prop where
 name : c.name.length ≤ 140737488351232
 subj : c.subj.length ≤ 140737488351232
 ctl : c.ctl.length ≤ 140737488351232
 dist : c.dist.length ≤ 140737488351232
 body : c.body.length ≤ 140737488351232
 ge : ∀ x ∈ c.groups, x.length ≤ 140737488351232
theorem fitN_sum (xs : List (List UInt8)) (h : ∀ x ∈ xs, x.length ≤ 140737488351232) : ∀ i, i ≤ xs.length → i ≤ 30 → fitN xs i = (((xs.take i).map List.length).sum : Nat) ∧ ((xs.take i).map List.length).sum ≤ i * 140737488351232
 | 0, _, _ => by simp [fitN]
 | i + 1, hi, h30 => by
  obtain ⟨h1, h2⟩ := fitN_sum xs h i (by omega) (by omega)
  have hx := h xs[i] (List.getElem_mem (by omega))
  have hg : xs.getD i [] = xs[i] := by simp [List.getD, show i < xs.length by omega]
  rw [List.take_succ_eq_append_getElem (show i < xs.length by omega), List.map_append, List.sum_append, fitN, h1, hg]
  simp only [List.map_cons, List.map_nil, List.sum_cons, List.sum_nil, Nat.add_zero]
  refine ⟨?_, by omega⟩
  rw [IntKind.wrap_i64]
  omega
theorem sum_mem {xs : List (List UInt8)} {x : List UInt8} (h : x ∈ xs) : x.length ≤ (xs.map List.length).sum := by
 induction xs with
 | nil => cases h
 | cons y r ih =>
  simp only [List.map_cons, List.sum_cons]
  rcases List.mem_cons.1 h with rfl | h
  ·
   omega
  ·
   have := ih h; omega
theorem sum_sep (xs : List (List UInt8)) (k : Nat) : (xs.map fun x => x.length + k).sum = (xs.map List.length).sum + xs.length * k := by
 induction xs with
 | nil => simp
 | cons y r ih => simp only [List.map_cons, List.sum_cons, ih, List.length_cons, Nat.add_mul]; omega
theorem fit_of {c : Con} (hi : CIn c) (h : fitB c = true) : CBF c := by
 simp only [fitB, Bool.and_eq_true, decide_eq_true_eq] at h
 obtain ⟨h1, h2, h3, h4, h5⟩ := h
 have hs := fitN_sum c.groups hi.ge c.groups.length (Nat.le_refl _) h1
 rw [List.take_length] at hs
 rw [hs.1] at h2
 have hj := join_sum [44] c.groups
 rw [sum_sep] at hj
 have h44 : ([44] : List UInt8).length = 1 := rfl
 rw [h44] at hj
 exact ⟨by omega, by omega, by omega, by omega, by omega, by omega, by omega, fun x hx => by have := sum_mem hx; omega, by omega⟩

theorem fits_c (c : Con) (p : CAt) (hi : CIn c) (w : World) (hR : CRd w c p) :
  Calls Tryz.prog 5 [.agg (flat (cseg c p))].toArray w fun e w' => e = .returned (.bool (fitB c)) ∧ Keeps none1 w w' := by
 obtain ⟨hg, hr, hgc, hrc⟩ := hR
 have hgl : c.groups.length = p.gl := by simpa using hg.1
 have hrl : c.refs.length = p.rl := by have := hr.1; rw [idsV_len] at this; omega
 obtain ⟨pga, pgl, pgc, pra, prl, prc⟩ := p
 dsimp only at hg hr hgc hrc hgl hrl
 subst hgl hrl
 have hgm := hg.2.1
 have hrm := hr.2.1
 unfold maxLen at hgm hrm
 have i1 := hi.name; have i2 := hi.subj; have i3 := hi.ctl; have i4 := hi.dist; have i5 := hi.body
 refine aJ (n := 58) (W := SL.none1) (m := []) Tryz.func5 O Tryz.ntmps5 O (aO _ _ _) ?_
 simp only [SL.enum, Nat.reduceAdd]
 refine ah fun K1 hK1 => aj (am O (bh _ O O O O O) ?_)
 intro b1 _
 try simp only [setN, putD, selM, nth, cw, cx]
 refine aa O O O (ak O O) (ai ?_)
 refine ae (hK1 _ _ ?_)
 refine ah fun K2 hK2 => aj (aa O O O (ak O O) ?_)
 refine ai (ae ?_)
 refine hK2 _ _ (ah fun K3 hK3 => ?_)
 refine ah fun K4 hK4 => aj (aa O O O (ak O O) ?_)
 refine ai (ae ?_)
 refine hK4 _ _ (aK ?_)
 refine bu (X := Nat) (φ := fun i => i ≤ c.groups.length) (L := fun i => [(1, .pointer (some ⟨b1, 0, none⟩)), (3, .int .i64 (fitN c.groups i)), (4, .int .i64 i)]) (M := fun i => [.blk b1 (.cells (flat (cseg c ⟨pga, c.groups.length, pgc, pra, c.refs.length, prc⟩)) 28 (0, 0))]) (μ := fun i => c.groups.length - i) ?_ ?_
 ·
  exact fun _ _ st => ⟨0, Nat.zero_le _, st.to [0] ⟨rfl, rfl, rfl, trivial⟩ O rfl⟩
 ·
  intro i hil
  try dsimp only
  refine ah fun K5 hK5 => ah fun K6 hK6 => aj (aa O O O (af O O) ?_)
  refine aa O O O (au (k := 18) O O (by kernel_rfl) O) ?_
  refine aa O O O (by first | exact al 0 O O O O (by kernel_rfl)) ?_
  refine aa O O O (bw O O O Tryz.underlying23) (aa O O O (aT O O O) ?_)
  refine ai (ae ?_)
  refine hK6 _ _ (aH O (fun hc9 => ?_) (fun hc9 => ?_))
  ·
   have hlt : i < c.groups.length := by simp at hc9; omega
   have hG := hg
   rcases hG.2.2 with h3 | ⟨ab, ao, rfl, hab, hac⟩
   ·
    omega
   have hx := hac i (str (c.groups.getD i [])) (by simp [hlt, List.getD])
   refine aC (ae ?_)
   refine hK5 _ _ (ah fun K7 hK7 => ?_)
   refine aK (aj ?_)
   refine aa O O O (af O O) (aa O O O (au (k := 18) O O (by kernel_rfl) O) ?_)
   refine aa O O O (by first | exact al 0 O O O O (by kernel_rfl)) ?_
   refine aa O O O (af O O) (aa O O O (bx (sz := 1) (k := c.groups.length) (off' := ao + i) O O O Tryz.underlying23 (by kernel_rfl) (by omega) (by omega) (by omega)) ?_)
   refine aa O O O (cj hab (fun h => h) hx O O (by kernel_rfl)) ?_
   refine aa O O O (bf O O O Tryz.underlying9) (aa O O O (SL.Pure.add O O O) ?_)
   refine aa O O O (ak O O) (ai ?_)
   refine aQ (ae ?_)
   refine hK7 _ _ (aj ?_)
   refine aa O O O (af O O) (aa O O O (aL O O O O (by omega) (by omega)) ?_)
   refine aa O O O (ak O O) (ai ?_)
   refine ae ?_
   exact bd (i + 1) [0] (show i + 1 ≤ c.groups.length by omega) (show c.groups.length - (i + 1) < c.groups.length - i by omega) ⟨rfl, rfl, rfl, trivial⟩ O rfl
  ·
   have hie : i = c.groups.length := by simp at hc9; omega
   subst hie
   refine aU (aI ?_)
   refine aI (aV ?_)
   refine ae (hK3 _ _ ?_)
   refine ah fun K8 hK8 => aj (aa O O O (au (k := 18) O O (by kernel_rfl) O) ?_)
   refine aa O O O (by first | exact al 0 O O O O (by kernel_rfl)) ?_
   refine aa O O O (bw O O O Tryz.underlying23) (aa O O O (bD O O O) ?_)
   refine aa O O O (af O O) (aR (d := 24) O (fun hg24 => ?_) (fun hg24 => ?_))
   ·
    have hk1 : c.groups.length ≤ 30 := by simp at hg24; omega
    refine aq O O O O O O O (af O O) (aq O O O O O O O (bD O O O) ?_)
    refine aa O O O (aF O O O) (aa O O O (af O O) ?_)
    refine aR (d := 28) O (fun hg28 => ?_) (fun hg28 => ?_)
    ·
     have hk2 : fitN c.groups c.groups.length ≤ 3000 := by simpa using hg28
     refine aq O O O O O O O (au (k := 20) O O (by kernel_rfl) O) ?_
     refine aq O O O O O O O (by first | exact al 0 O O O O (by kernel_rfl)) ?_
     refine aq O O O O O O O (bw O O O Tryz.underlying24) (aq O O O O O O O (bD O O O) ?_)
     refine aa O O O (aF O O O) (aa O O O (af O O) ?_)
     refine aR (d := 34) O (fun hg34 => ?_) (fun hg34 => ?_)
     ·
      have hk3 : c.refs.length ≤ 30 := by simp at hg34; omega
      refine aq O O O O O O O (au (k := 0) O O (by kernel_rfl) O) ?_
      refine aq O O O O O O O (by first | exact al 0 O O O O (by kernel_rfl)) ?_
      refine aq O O O O O O O (bf O O O Tryz.underlying9) (aq O O O O O O O (au (k := 19) O O (by kernel_rfl) O) ?_)
      refine aq O O O O O O O (by first | exact al 0 O O O O (by kernel_rfl)) ?_
      refine aq O O O O O O O (bf O O O Tryz.underlying9) (aq O O O O O O O (aL O O O O (by omega) (by omega)) ?_)
      refine aq O O O O O O O (au (k := 53) O O (by kernel_rfl) O) ?_
      refine aq O O O O O O O (by first | exact al 0 O O O O (by kernel_rfl)) ?_
      refine aq O O O O O O O (bf O O O Tryz.underlying9) (aq O O O O O O O (aL O O O O (by omega) (by omega)) ?_)
      refine aq O O O O O O O (au (k := 54) O O (by kernel_rfl) O) ?_
      refine aq O O O O O O O (by first | exact al 0 O O O O (by kernel_rfl)) ?_
      refine aq O O O O O O O (bf O O O Tryz.underlying9) (aq O O O O O O O (aL O O O O (by omega) (by omega)) ?_)
      refine aq O O O O O O O (bD O O O) (aa O O O (aF O O O) ?_)
      refine aa O O O (af O O) (aR (d := 52) O (fun hg52 => ?_) (fun hg52 => ?_))
      ·
       have hk4 : c.name.length + c.subj.length + c.ctl.length + c.dist.length ≤ 2000 := by simp at hg52; omega
       refine aq O O O O O O O (au (k := 74) O O (by kernel_rfl) O) ?_
       refine aq O O O O O O O (by first | exact al 0 O O O O (by kernel_rfl)) ?_
       refine aq O O O O O O O (bf O O O Tryz.underlying9) (aq O O O O O O O (bD O O O) ?_)
       refine aa O O O (aF O O O) (aa O O O (ak O O) ?_)
       refine ai (ae ?_)
       refine hK8 _ _ (aw av (ar O (.cons (.tmp O) .nil) O) (fun w' hM' hK' => ?_))
       exact ⟨bj (by rw [fitB, decide_eq_true hk1, decide_eq_true hk2, decide_eq_true hk3, decide_eq_true hk4]; simp only [Bool.true_and, decide_eq_true_eq]; omega), hK'⟩
      ·
       have hk4 : ¬ c.name.length + c.subj.length + c.ctl.length + c.dist.length ≤ 2000 := by simp at hg52; omega
       refine ag O O O O O O O (ag O O O O O O O ?_)
       refine ag O O O O O O O (ag O O O O O O O ?_)
       refine aa O O O (aE O O O) (aa O O O (ak O O) ?_)
       refine ai (ae ?_)
       refine hK8 _ _ (aw av (ar O (.cons (.tmp O) .nil) O) (fun w' hM' hK' => ?_))
       exact ⟨by rw [fitB, decide_eq_true hk1, decide_eq_true hk2, decide_eq_true hk3, decide_eq_false hk4]; rfl, hK'⟩
     ·
      have hk3 : ¬ c.refs.length ≤ 30 := by simp at hg34; omega
      refine ag O O O O O O O (ag O O O O O O O ?_)
      refine ag O O O O O O O (ag O O O O O O O ?_)
      refine ag O O O O O O O (ag O O O O O O O ?_)
      refine ag O O O O O O O (ag O O O O O O O ?_)
      refine ag O O O O O O O (ag O O O O O O O ?_)
      refine ag O O O O O O O (ag O O O O O O O ?_)
      refine ag O O O O O O O (ag O O O O O O O ?_)
      refine ag O O O O O O O (ag O O O O O O O ?_)
      refine aa O O O (aE O O O) (aa O O O (af O O) ?_)
      refine ag O O O O O O O (ag O O O O O O O ?_)
      refine ag O O O O O O O (ag O O O O O O O ?_)
      refine aa O O O (aE O O O) (aa O O O (ak O O) ?_)
      refine ai (ae ?_)
      refine hK8 _ _ (aw av (ar O (.cons (.tmp O) .nil) O) (fun w' hM' hK' => ?_))
      exact ⟨by rw [fitB, decide_eq_true hk1, decide_eq_true hk2, decide_eq_false hk3]; rfl, hK'⟩
    ·
     have hk2 : ¬ fitN c.groups c.groups.length ≤ 3000 := by simpa using hg28
     refine ag O O O O O O O (ag O O O O O O O ?_)
     refine ag O O O O O O O (ag O O O O O O O ?_)
     refine aa O O O (aE O O O) (aa O O O (af O O) ?_)
     refine ag O O O O O O O (ag O O O O O O O ?_)
     refine ag O O O O O O O (ag O O O O O O O ?_)
     refine ag O O O O O O O (ag O O O O O O O ?_)
     refine ag O O O O O O O (ag O O O O O O O ?_)
     refine ag O O O O O O O (ag O O O O O O O ?_)
     refine ag O O O O O O O (ag O O O O O O O ?_)
     refine ag O O O O O O O (ag O O O O O O O ?_)
     refine ag O O O O O O O (ag O O O O O O O ?_)
     refine aa O O O (aE O O O) (aa O O O (af O O) ?_)
     refine ag O O O O O O O (ag O O O O O O O ?_)
     refine ag O O O O O O O (ag O O O O O O O ?_)
     refine aa O O O (aE O O O) (aa O O O (ak O O) ?_)
     refine ai (ae ?_)
     refine hK8 _ _ (aw av (ar O (.cons (.tmp O) .nil) O) (fun w' hM' hK' => ?_))
     exact ⟨by rw [fitB, decide_eq_true hk1, decide_eq_false hk2]; rfl, hK'⟩
   ·
    have hk1 : ¬ c.groups.length ≤ 30 := by simp at hg24; omega
    refine ag O O O O O O O (ag O O O O O O O ?_)
    refine aa O O O (aE O O O) (aa O O O (af O O) ?_)
    refine ag O O O O O O O (ag O O O O O O O ?_)
    refine ag O O O O O O O (ag O O O O O O O ?_)
    refine aa O O O (aE O O O) (aa O O O (af O O) ?_)
    refine ag O O O O O O O (ag O O O O O O O ?_)
    refine ag O O O O O O O (ag O O O O O O O ?_)
    refine ag O O O O O O O (ag O O O O O O O ?_)
    refine ag O O O O O O O (ag O O O O O O O ?_)
    refine ag O O O O O O O (ag O O O O O O O ?_)
    refine ag O O O O O O O (ag O O O O O O O ?_)
    refine ag O O O O O O O (ag O O O O O O O ?_)
    refine ag O O O O O O O (ag O O O O O O O ?_)
    refine aa O O O (aE O O O) (aa O O O (af O O) ?_)
    refine ag O O O O O O O (ag O O O O O O O ?_)
    refine ag O O O O O O O (ag O O O O O O O ?_)
    refine aa O O O (aE O O O) (aa O O O (ak O O) ?_)
    refine ai (ae ?_)
    refine hK8 _ _ (aw av (ar O (.cons (.tmp O) .nil) O) (fun w' hM' hK' => ?_))
    exact ⟨by rw [fitB, decide_eq_false hk1]; rfl, hK'⟩
end Go.Proofs.YthfhhkanpnemcaaGreatDoor
