/- Contents: Check. Contents: the canonical form and the identity. Contents: equality and clones. -/
import Derived.Test.YthfhhkanpnemcaaGreatDoorMB
import Derived.Test.YthfhhkanpnemcaaGreatDoorM8
import Derived.Test.YthfhhkanpnemcaaGreatDoorM3
import Derived.Test.YthfhhkanpnemcaaGreatDoorM6
import Derived.Lib.SliceRun
namespace Go.Proofs.YthfhhkanpnemcaaGreatDoor
open Go.SL Go.RowKit IntWalk
set_option linter.unusedVariables false
set_option maxRecDepth 100000
set_option linter.unusedSimpArgs false
set_option maxHeartbeats 400000

def textM (x : Int) (s : List UInt8) (most : Int) : Int := mustM (mustM (mustM x (decide ((s.length : Int) ≤ most)) 5) (prn s) 6) (sqz s) 3
theorem ctext_c (b : Nat) (x : Int) (s : List UInt8) (most : Int) (hs : s.length ≤ 1000000) (hb : 6 ≤ b) (w : World) (hG : Glob w) (hm : Mem (blocksOf [.blk b (errsO x)]) w [.blk b (errsO x)] w) :
  Calls Tryz.prog 41 [.pointer (some ⟨b, 0, none⟩), str s, .int .i64 most].toArray w fun r w' => ∃ _ : Unit, True ∧ r = .returned (.tuple #[]) ∧ Post w (blocksOf [.blk b (errsO x)]) [.blk b (errsO (textM x s most))] w' := by
 refine aJ (n := 20) (W := (blocksOf [.blk b (errsO x)])) (m := [.blk b (errsO x)]) Tryz.func41 O Tryz.ntmps41 O hm ?_
 simp only [SL.enum, Nat.reduceAdd]
 refine ah fun K1 hK1 => aj (aa O O O (af O O) ?_)
 refine aa O O O (af O O) (aa O O O (bf O O O Tryz.underlying9) ?_)
 refine aa O O O (af O O) (aa O O O (bD O O O) ?_)
 refine am O (aM [0] [] O O (by kernel_rfl) O O O O (fun w hM hK => must_c b x 5 (decide ((s.length : Int) ≤ most)) w (hM.sel [0] O).own)) ?_
 intro _ _
 try simp only [setN, putD, selM, nth, cw, cx]
 refine ai (ae ?_)
 refine hK1 _ _ (ah fun K2 hK2 => ?_)
 refine aj (aa O O O (af O O) ?_)
 refine aa O O O (af O O) (am O (aN O O (by kernel_rfl) O O (fun w hM hK => printable_c s hs w)) ?_)
 intro _ _
 try simp only [setN, putD, selM, nth, cw, cx]
 refine am O (aM [0] [] O O (by kernel_rfl) O O O O (fun w hM hK => must_c b (mustM x (decide ((s.length : Int) ≤ most)) 5) 6 (prn s) w (hM.sel [0] O).own)) ?_
 intro _ _
 try simp only [setN, putD, selM, nth, cw, cx]
 refine ai (ae ?_)
 refine hK2 _ _ (aj ?_)
 refine aa O O O (af O O) (aa O O O (af O O) ?_)
 refine am O (aN O O (by kernel_rfl) O O (fun w hM hK => squeezed_c s w (hG.keep1 hK hb) (by omega))) ?_
 intro _ _
 try simp only [setN, putD, selM, nth, cw, cx]
 refine am O (aM [0] [] O O (by kernel_rfl) O O O O (fun w hM hK => must_c b (mustM (mustM x (decide ((s.length : Int) ≤ most)) 5) (prn s) 6) 3 (sqz s) w (hM.sel [0] O).own)) ?_
 intro _ _
 try simp only [setN, putD, selM, nth, cw, cx]
 refine ai (ci (fun _ _ h => h) (ar O .nil O) (fun w' hM' hK' => ?_))
 exact ⟨(), trivial, rfl, hK', hM'.sel [0] rfl⟩
def ctrlM (x : Int) (s : List UInt8) (sup : B 32) : Int := if s = [] then x else mustM (seeM (mustM x (sqz s) 3) (ctlE s)) (decide (sup = B.zero 32)) 11
theorem cctrl_c (b : Nat) (x : Int) (s : List UInt8) (sup : B 32) (hs : s.length ≤ 1000000) (hb : 6 ≤ b) (w : World) (hG : Glob w) (hm : Mem (blocksOf [.blk b (errsO x)]) w [.blk b (errsO x)] w) :
  Calls Tryz.prog 46 [.pointer (some ⟨b, 0, none⟩), str s, .agg (flat [sup.seg])].toArray w fun r w' => ∃ _ : Unit, True ∧ r = .returned (.tuple #[]) ∧ Post w (blocksOf [.blk b (errsO x)]) [.blk b (errsO (ctrlM x s sup))] w' := by
 refine aJ (n := 28) (W := (blocksOf [.blk b (errsO x)])) (m := [.blk b (errsO x)]) Tryz.func46 O Tryz.ntmps46 O hm ?_
 simp only [SL.enum, Nat.reduceAdd]
 refine ah fun K1 hK1 => aj (am O (bh _ O O O O O) ?_)
 intro b5 _
 try simp only [setN, putD, selM, nth, cw, cx]
 refine ai (ae ?_)
 refine hK1 _ _ (ah fun K2 hK2 => ?_)
 refine ah fun K3 hK3 => aj (aa O O O (af O O) ?_)
 refine aa O O O (SL.Pure.eqS O O O) (ai ?_)
 refine ae (hK3 _ _ ?_)
 refine aH O (fun hc10 => ?_) (fun hc10 => ?_)
 ·
  have h : s = [] := by simpa using hc10
  have hC : ctrlM x s sup = x := if_pos h
  refine aw (aB av) (ar O .nil O) (fun w' hM' hK' => ?_)
  exact ⟨(), trivial, rfl, hK', by rw [hC]; exact hM'.sel [1] rfl⟩
 ·
  have h : ¬ s = [] := by simpa using hc10
  have hC : ctrlM x s sup = mustM (seeM (mustM x (sqz s) 3) (ctlE s)) (decide (sup = B.zero 32)) 11 := if_neg h
  refine aC (ae ?_)
  refine hK2 _ _ (ah fun K4 hK4 => ?_)
  refine aj (aa O O O (af O O) ?_)
  refine aa O O O (af O O) (am O (aN O O (by kernel_rfl) O O (fun w hM hK => squeezed_c s w (hG.keep1 hK hb) (by omega))) ?_)
  intro _ _
  try simp only [setN, putD, selM, nth, cw, cx]
  refine am O (aM [1] [0] O O (by kernel_rfl) O O O O (fun w hM hK => must_c b x 3 (sqz s) w (hM.sel [1] O).own)) ?_
  intro _ _
  try simp only [setN, putD, selM, nth, cw, cx]
  refine ai (ae ?_)
  refine hK4 _ _ (ah fun K5 hK5 => ?_)
  refine aj (aa O O O (af O O) ?_)
  refine am O (aM [] [0, 1] O O (by kernel_rfl) O O O O (fun w hM hK => ctlParse_c s w (hG.keep1 hK hb))) ?_
  intro ⟨cc, cat⟩ _
  try simp only [setN, putD, selM, nth, cw, cx]
  refine aa O O O (af O O) (aa O O O (aW O O O) ?_)
  refine aa O O O (aW O O O) (aa O O O (aW O O O) ?_)
  refine am O (aX [Seg.one (.int .i64 0) rfl, (B.zero 32).seg, Seg.one (str []) rfl, Seg.one (.int .i64 0) rfl, Seg.one (.bool false) rfl, Seg.one (.slice none 0 0) rfl, Seg.one (str []) rfl, Seg.one (.int .i64 0) rfl, Seg.one (.int .i64 0) rfl, (B.zero 16).seg] O O O (by kernel_rfl)) ?_
  intro b6 _
  try simp only [setN, putD, selM, nth, cw, cx]
  refine am O (by first | exact ap (k := 56) 0 _ O O O O O O (by kernel_rfl) O O | exact ap (k := 56) 1 _ O O O O O O (by kernel_rfl) O O | exact ap (k := 56) 2 _ O O O O O O (by kernel_rfl) O O) ?_
  intro _ _
  try simp only [setN, putD, selM, nth, cw, cx]
  refine aa O O O (ak O O) (aa O O O (ak O O) ?_)
  refine ai (ae ?_)
  refine hK5 _ _ (ah fun K6 hK6 => ?_)
  refine aj (aa O O O (af O O) ?_)
  refine aa O O O (af O O) (am O (aM [1] [0, 2] O O (by kernel_rfl) O O O O (fun w hM hK => see_c b (mustM x (sqz s) 3) (ctlE s) w (hM.sel [1] O).own)) ?_)
  intro _ _
  try simp only [setN, putD, selM, nth, cw, cx]
  refine ai (ae ?_)
  refine hK6 _ _ (aj ?_)
  refine aa O O O (af O O) (aa O O O (by first | exact ay 0 (k := 32) O O O (by kernel_rfl) O (by kernel_rfl) | exact ay 1 (k := 32) O O O (by kernel_rfl) O (by kernel_rfl) | exact ay 2 (k := 32) O O O (by kernel_rfl) O (by kernel_rfl)) ?_)
  refine am O (aN O O (by kernel_rfl) O O (fun w hM hK => isZero_c sup w)) ?_
  intro _ _
  try simp only [setN, putD, selM, nth, cw, cx]
  refine am O (aM [0] [1, 2] O O (by kernel_rfl) O O O O (fun w hM hK => must_c b (seeM (mustM x (sqz s) 3) (ctlE s)) 11 (decide (sup = B.zero 32)) w (hM.sel [0] O).own)) ?_
  intro _ _
  try simp only [setN, putD, selM, nth, cw, cx]
  refine ai (ci (fun _ _ h => h) (ar O .nil O) (fun w' hM' hK' => ?_))
  exact ⟨(), trivial, rfl, hK', by rw [hC]; exact hM'.sel [0] rfl⟩
def dchr (c : Int) : Bool := (decide (97 ≤ c) && decide (c ≤ 122)) || (decide (48 ≤ c) && decide (c ≤ 57)) || decide (c = 45)
theorem dist1_c (c : Int) (w : World) : Calls Tryz.prog 70 [.int .i32 c].toArray w fun e w' => e = .returned (.bool (!dchr c)) ∧ Keeps none1 w w' := by
 refine aJ (n := 21) (W := SL.none1) (m := []) Tryz.func70 O Tryz.ntmps70 O (aO _ _ _) ?_
 simp only [SL.enum, Nat.reduceAdd]
 refine ah fun K1 hK1 => aj (aa O O O (ak O O) ?_)
 refine ai (ae ?_)
 refine hK1 _ _ (ah fun K2 hK2 => ?_)
 refine aj (aa O O O (af O O) ?_)
 refine aa O O O (aT O O O) (aa O O O (af O O) ?_)
 refine aR (d := 5) O (fun hg5 => ?_) (fun hg5 => ?_)
 ·
  refine ag O O O O O O O (ag O O O O O O O ?_)
  refine aa O O O (aF O O O) (aa O O O (af O O) ?_)
  refine aq O O O O O O O (af O O) (aq O O O O O O O (aT O O O) ?_)
  refine aq O O O O O O O (af O O) (aR (d := 12) O (fun hg12 => ?_) (fun hg12 => ?_))
  ·
   refine ag O O O O O O O (ag O O O O O O O ?_)
   refine aq O O O O O O O (aF O O O) (aa O O O (aF O O O) ?_)
   refine aa O O O (af O O) (aq O O O O O O O (af O O) ?_)
   refine aq O O O O O O O (bl O O O) (aa O O O (aF O O O) ?_)
   refine aa O O O (ak O O) (ai ?_)
   refine ae (hK2 _ _ ?_)
   refine aw av (ar O (.cons (.tmp O) .nil) O) (fun w' hM' hK' => ?_)
   exact ⟨bj (by first | (simp [dchr] at *; done) | (simp [dchr] at *; omega) | (simp [dchr] <;> omega) | (simp_all [dchr]; done)), hK'⟩
  ·
   refine aq O O O O O O O (af O O) (aq O O O O O O O (bH O O O) ?_)
   refine aq O O O O O O O (aE O O O) (aa O O O (aF O O O) ?_)
   refine aa O O O (af O O) (aR (d := 17) O (fun hg17 => ?_) (fun hg17 => ?_))
   ·
    refine aq O O O O O O O (af O O) (aq O O O O O O O (bl O O O) ?_)
    refine aa O O O (aF O O O) (aa O O O (ak O O) ?_)
    refine ai (ae ?_)
    refine hK2 _ _ (aw av (ar O (.cons (.tmp O) .nil) O) (fun w' hM' hK' => ?_))
    exact ⟨bj (by first | (simp [dchr] at *; done) | (simp [dchr] at *; omega) | (simp [dchr] <;> omega) | (simp_all [dchr]; done)), hK'⟩
   ·
    refine ag O O O O O O O (ag O O O O O O O ?_)
    refine aa O O O (aE O O O) (aa O O O (ak O O) ?_)
    refine ai (ae ?_)
    refine hK2 _ _ (aw av (ar O (.cons (.tmp O) .nil) O) (fun w' hM' hK' => ?_))
    exact ⟨bj (by first | (simp [dchr] at *; done) | (simp [dchr] at *; omega) | (simp [dchr] <;> omega) | (simp_all [dchr]; done)), hK'⟩
 ·
  refine aq O O O O O O O (af O O) (aq O O O O O O O (bH O O O) ?_)
  refine aa O O O (aE O O O) (aa O O O (af O O) ?_)
  refine aR (d := 9) O (fun hg9 => ?_) (fun hg9 => ?_)
  ·
   refine aq O O O O O O O (af O O) (aq O O O O O O O (aT O O O) ?_)
   refine aq O O O O O O O (af O O) (aR (d := 12) O (fun hg12 => ?_) (fun hg12 => ?_))
   ·
    refine ag O O O O O O O (ag O O O O O O O ?_)
    refine aq O O O O O O O (aF O O O) (aa O O O (aF O O O) ?_)
    refine aa O O O (af O O) (aq O O O O O O O (af O O) ?_)
    refine aq O O O O O O O (bl O O O) (aa O O O (aF O O O) ?_)
    refine aa O O O (ak O O) (ai ?_)
    refine ae (hK2 _ _ ?_)
    refine aw av (ar O (.cons (.tmp O) .nil) O) (fun w' hM' hK' => ?_)
    exact ⟨bj (by first | (simp [dchr] at *; done) | (simp [dchr] at *; omega) | (simp [dchr] <;> omega) | (simp_all [dchr]; done)), hK'⟩
   ·
    refine aq O O O O O O O (af O O) (aq O O O O O O O (bH O O O) ?_)
    refine aq O O O O O O O (aE O O O) (aa O O O (aF O O O) ?_)
    refine aa O O O (af O O) (aR (d := 17) O (fun hg17 => ?_) (fun hg17 => ?_))
    ·
     refine aq O O O O O O O (af O O) (aq O O O O O O O (bl O O O) ?_)
     refine aa O O O (aF O O O) (aa O O O (ak O O) ?_)
     refine ai (ae ?_)
     refine hK2 _ _ (aw av (ar O (.cons (.tmp O) .nil) O) (fun w' hM' hK' => ?_))
     exact ⟨bj (by first | (simp [dchr] at *; done) | (simp [dchr] at *; omega) | (simp [dchr] <;> omega) | (simp_all [dchr]; done)), hK'⟩
    ·
     refine ag O O O O O O O (ag O O O O O O O ?_)
     refine aa O O O (aE O O O) (aa O O O (ak O O) ?_)
     refine ai (ae ?_)
     refine hK2 _ _ (aw av (ar O (.cons (.tmp O) .nil) O) (fun w' hM' hK' => ?_))
     exact ⟨bj (by first | (simp [dchr] at *; done) | (simp [dchr] at *; omega) | (simp [dchr] <;> omega) | (simp_all [dchr]; done)), hK'⟩
  ·
   refine ag O O O O O O O (ag O O O O O O O ?_)
   refine ag O O O O O O O (bO O O O O O O ?_)
   refine bO O O O O O O (ag O O O O O O O ?_)
   refine aa O O O (aE O O O) (aa O O O (af O O) ?_)
   refine ag O O O O O O O (ag O O O O O O O ?_)
   refine aa O O O (aE O O O) (aa O O O (ak O O) ?_)
   refine ai (ae ?_)
   refine hK2 _ _ (aw av (ar O (.cons (.tmp O) .nil) O) (fun w' hM' hK' => ?_))
   exact ⟨bj (by first | (simp [dchr] at *; done) | (simp [dchr] at *; omega) | (simp [dchr] <;> omega) | (simp_all [dchr]; done)), hK'⟩
def distB (s : List UInt8) : Bool := !decide (0 ≤ Lib.idxFunc (fun x => !dchr (x : Int)) true ⟨s.toArray⟩)
def distM (x : Int) (s : List UInt8) : Int := mustM (mustM x (decide ((s.length : Int) ≤ 20)) 5) (distB s) 6
theorem cdist_c (b : Nat) (x : Int) (s : List UInt8) (w : World) (hm : Mem (blocksOf [.blk b (errsO x)]) w [.blk b (errsO x)] w) :
  Calls Tryz.prog 47 [.pointer (some ⟨b, 0, none⟩), str s].toArray w fun r w' => ∃ _ : Unit, True ∧ r = .returned (.tuple #[]) ∧ Post w (blocksOf [.blk b (errsO x)]) [.blk b (errsO (distM x s))] w' := by
 refine aJ (n := 14) (W := (blocksOf [.blk b (errsO x)])) (m := [.blk b (errsO x)]) Tryz.func47 O Tryz.ntmps47 O hm ?_
 simp only [SL.enum, Nat.reduceAdd]
 refine ah fun K1 hK1 => aj (aa O O O (af O O) ?_)
 refine aa O O O (af O O) (aa O O O (bf O O O Tryz.underlying9) ?_)
 refine aa O O O (bD O O O) (am O (aM [0] [] O O (by kernel_rfl) O O O O (fun w hM hK => must_c b x 5 (decide ((s.length : Int) ≤ 20)) w (hM.sel [0] O).own)) ?_)
 intro _ _
 try simp only [setN, putD, selM, nth, cw, cx]
 refine ai (ae ?_)
 refine hK1 _ _ (aj ?_)
 refine aa O O O (af O O) (aa O O O (af O O) ?_)
 refine am O (aN O O (by kernel_rfl) O O (fun w hM hK => containsFunc_c 70 (fun x => !dchr (x : Int)) (by kernel_rfl) (fun W x _ => dist1_c (x : Int) W) s w)) ?_
 intro _ _
 try simp only [setN, putD, selM, nth, cw, cx]
 refine aa O O O (bM O O) (am O (aM [0] [] O O (by kernel_rfl) O O O O (fun w hM hK => must_c b (mustM x (decide ((s.length : Int) ≤ 20)) 5) 6 (distB s) w (hM.sel [0] O).own)) ?_)
 intro _ _
 try simp only [setN, putD, selM, nth, cw, cx]
 refine ai (ci (fun _ _ h => h) (ar O .nil O) (fun w' hM' hK' => ?_))
 exact ⟨(), trivial, rfl, hK', hM'.sel [0] rfl⟩

def chk1 (c : Con) : Int := textM 0 c.name 60
def chk2 (c : Con) : Int := mustM (chk1 c) (decide (0 ≤ c.date) && decide (c.date ≤ 105190559)) 13
def chk3 (c : Con) : Int := textM (seeM (chk2 c) (fmtErr c.groups)) c.subj 200
def chk4 (c : Con) : Int := distM (ctrlM (seeM (chk3 c) (refErr c.refs)) c.ctl c.sup) c.dist
def chk5 (c : Con) : Int := seeM (mustM (chk4 c) (decide (0 ≤ c.num) && decide (c.num ≤ 1000)) 2) (pubErr c.height)
def leafB (c : Con) : Bool := decide (0 ≤ c.leaf) && decide (c.leaf < ((2 ^ c.height.toNat : Nat) : Int))
def chkL (c : Con) : Int := mustM (chk5 c) (!decide (chk5 c = 0) || leafB c) 2
def chk6 (c : Con) : Int := mustM (chkL c) (decide ((c.body.length : Int) ≤ 57344)) 5
def checkM (c : Con) : Int := if chk6 c = 0 then seeM (chk6 c) (bodyE c.body) else chk6 c
/-- bounds under which Check is walked -/
structure CBC (c : Con) : Prop where
 name : c.name.length ≤ 1000000
 subj : c.subj.length ≤ 1000000
 ctl : c.ctl.length ≤ 1000000
 body : c.body.length ≤ 1000000
 gl : c.groups.length ≤ 1000000
 gj : (Lib.join c.groups [44]).length ≤ 100000000
 ge : ∀ x ∈ c.groups, x.length ≤ 100000000
theorem pubErr_ok {h : Int} (he : pubErr h = 0) : 1 ≤ h ∧ h ≤ 8 := by
 unfold pubErr at he
 split at he
 ·
  cases he
 ·
  omega
theorem chk5_height {c : Con} (h : chk5 c = 0) : 1 ≤ c.height ∧ c.height ≤ 8 := by
 apply pubErr_ok
 unfold chk5 seeM at h
 split at h
 ·
  exact h
 ·
  rename_i hn; exact absurd h hn

theorem ccheck_c (c : Con) (p : CAt) (h : CBC c) (w : World) (hG : Glob w) (hR : CRd w c p) :
  Calls Tryz.prog 28 [.agg (flat (cseg c p))].toArray w fun e w' => e = .returned (.int .i64 (checkM c)) ∧ Keeps none1 w w' := by
 obtain ⟨hg, hr, hgc, hrc⟩ := hR
 have h1 := h.name; have h2 := h.subj; have h3 := h.ctl; have h4 := h.body
 have h6 : ∀ {m : List Res} {w' : World} {k : Nat} {o : Obj}, Mem none1 w m w' → .blk k o ∈ m → 6 ≤ k := fun hM hr => newBlk6 hG hM (fun k hk => hk.elim) hr rfl
 refine aJ (n := 110) (W := SL.none1) (m := []) Tryz.func28 O Tryz.ntmps28 O (aO _ _ _) ?_
 simp only [SL.enum, Nat.reduceAdd]
 refine ah fun K1 hK1 => aj (am O (bh _ O O O O O) ?_)
 intro b1 _
 try simp only [setN, putD, selM, nth, cw, cx]
 refine aa O O O (ak O O) (ai ?_)
 refine ae (hK1 _ _ ?_)
 refine ah fun K2 hK2 => aj (aa O O O (bg [(0, 1)] [Seg.one (.int .i64 0) rfl] O O .nil (by kernel_rfl) (by kernel_rfl) O) ?_)
 refine am O (bh _ O O O O O) ?_
 intro b7 _
 try simp only [setN, putD, selM, nth, cw, cx]
 refine aa O O O (ak O O) (ai ?_)
 refine ae (hK2 _ _ ?_)
 refine ah fun K3 hK3 => aj (aa O O O (af O O) ?_)
 refine aa O O O (au (k := 0) O O (by kernel_rfl) O) ?_
 refine aa O O O (by first | exact al 0 O O O O (by kernel_rfl) | exact al 1 O O O O (by kernel_rfl)) ?_
 refine am O (aM [0] [1] O O (by kernel_rfl) O O O O (fun w hM hK => ctext_c b7 0 c.name 60 h1 (h6 hM List.mem_cons_self) w (hG.keep hK) (hM.sel [0] O).own)) ?_
 intro _ _
 try simp only [setN, putD, selM, nth, cw, cx]
 refine ai (ae ?_)
 refine hK3 _ _ (ah fun K4 hK4 => ?_)
 refine cq (X := Unit) (φ := fun _ => True) (L := fun _ => [(1, .pointer (some ⟨b1, 0, none⟩)), (3, .pointer (some ⟨b7, 0, none⟩))]) (M := fun _ => [.blk b7 (errsO (chk2 c)), .blk b1 (.cells (flat (cseg c p)) 37 (0, 0))]) ?_ (fun hJa3 => ?_)
 ·
  intro _ _
  try dsimp only
  refine ae (hK4 _ _ ?_)
  refine ah fun K5 hK5 => aj (aa O O O (au (k := 18) O O (by kernel_rfl) O) ?_)
  refine aa O O O (by first | exact al 0 O O O O (by kernel_rfl) | exact al 1 O O O O (by kernel_rfl)) ?_
  refine am O (aN O O (by kernel_rfl) O O (fun w hM hK => formatList_c c.groups p.ga p.gl p.gc hgc h.ge h.gj h.gl w (hG.keep hK) (hg.keep hK))) ?_
  intro _ _
  try simp only [setN, putD, selM, nth, cw, cx]
  refine aa O O O (af O O) (aa O O O (aW O O O) ?_)
  refine aa O O O (aW O O O) (aa O O O (ak O O) ?_)
  refine aa O O O (ak O O) (ai ?_)
  refine ae (hK5 _ _ ?_)
  refine ah fun K6 hK6 => aj (aa O O O (af O O) ?_)
  refine aa O O O (af O O) (am O (aM [0] [1] O O (by kernel_rfl) O O O O (fun w hM hK => see_c b7 (chk2 c) (fmtErr c.groups) w (hM.sel [0] O).own)) ?_)
  intro _ _
  try simp only [setN, putD, selM, nth, cw, cx]
  refine ai (ae ?_)
  refine hK6 _ _ (ah fun K7 hK7 => ?_)
  refine aj (aa O O O (af O O) ?_)
  refine aa O O O (au (k := 19) O O (by kernel_rfl) O) ?_
  refine aa O O O (by first | exact al 0 O O O O (by kernel_rfl) | exact al 1 O O O O (by kernel_rfl)) ?_
  refine am O (aM [0] [1] O O (by kernel_rfl) O O O O (fun w hM hK => ctext_c b7 (seeM (chk2 c) (fmtErr c.groups)) c.subj 200 h2 (h6 hM List.mem_cons_self) w (hG.keep hK) (hM.sel [0] O).own)) ?_
  intro _ _
  try simp only [setN, putD, selM, nth, cw, cx]
  refine ai (ae ?_)
  refine hK7 _ _ (ah fun K8 hK8 => ?_)
  refine aj (aa O O O (af O O) ?_)
  refine aa O O O (au (k := 20) O O (by kernel_rfl) O) ?_
  refine aa O O O (by first | exact al 0 O O O O (by kernel_rfl) | exact al 1 O O O O (by kernel_rfl)) ?_
  refine am O (aN O O (by kernel_rfl) O O (fun w hM hK => rcheck_c c.refs p.ra p.rl p.rc hrc w (hr.keep hK))) ?_
  intro _ _
  try simp only [setN, putD, selM, nth, cw, cx]
  refine am O (aM [0] [1] O O (by kernel_rfl) O O O O (fun w hM hK => see_c b7 (chk3 c) (refErr c.refs) w (hM.sel [0] O).own)) ?_
  intro _ _
  try simp only [setN, putD, selM, nth, cw, cx]
  refine ai (ae ?_)
  refine hK8 _ _ (ah fun K9 hK9 => ?_)
  refine aj (aa O O O (af O O) ?_)
  refine aa O O O (au (k := 53) O O (by kernel_rfl) O) ?_
  refine aa O O O (by first | exact al 0 O O O O (by kernel_rfl) | exact al 1 O O O O (by kernel_rfl)) ?_
  refine aa O O O (au (k := 21) O O (by kernel_rfl) O) ?_
  refine aa O O O (by first | exact ay 0 (k := 32) O O O (by kernel_rfl) O (by kernel_rfl) | exact ay 1 (k := 32) O O O (by kernel_rfl) O (by kernel_rfl)) ?_
  refine am O (aM [0] [1] O O (by kernel_rfl) O O O O (fun w hM hK => cctrl_c b7 (seeM (chk3 c) (refErr c.refs)) c.ctl c.sup h3 (h6 hM List.mem_cons_self) w (hG.keep hK) (hM.sel [0] O).own)) ?_
  intro _ _
  try simp only [setN, putD, selM, nth, cw, cx]
  refine ai (ae ?_)
  refine hK9 _ _ (ah fun K10 hK10 => ?_)
  refine aj (aa O O O (af O O) ?_)
  refine aa O O O (au (k := 54) O O (by kernel_rfl) O) ?_
  refine aa O O O (by first | exact al 0 O O O O (by kernel_rfl) | exact al 1 O O O O (by kernel_rfl)) ?_
  refine am O (aM [0] [1] O O (by kernel_rfl) O O O O (fun w hM hK => cdist_c b7 (ctrlM (seeM (chk3 c) (refErr c.refs)) c.ctl c.sup) c.dist w (hM.sel [0] O).own)) ?_
  intro _ _
  try simp only [setN, putD, selM, nth, cw, cx]
  refine ai (ae ?_)
  refine hK10 _ _ (ah fun K11 hK11 => ?_)
  refine cq (X := Unit) (φ := fun _ => True) (L := fun _ => [(1, .pointer (some ⟨b1, 0, none⟩)), (3, .pointer (some ⟨b7, 0, none⟩))]) (M := fun _ => [.blk b7 (errsO (mustM (chk4 c) (decide (0 ≤ c.num) && decide (c.num ≤ 1000)) 2)), .blk b1 (.cells (flat (cseg c p)) 37 (0, 0))]) ?_ (fun hJa10 => ?_)
  ·
   intro _ _
   try dsimp only
   refine ae (hK11 _ _ ?_)
   refine ah fun K12 hK12 => aj (aa O O O (af O O) ?_)
   refine aa O O O (au (k := 56) O O (by kernel_rfl) O) ?_
   refine aa O O O (by first | exact ay 0 (k := 17) O O O (by kernel_rfl) O (by kernel_rfl) | exact ay 1 (k := 17) O O O (by kernel_rfl) O (by kernel_rfl)) ?_
   refine am O (aN O O (by kernel_rfl) O O (fun w hM hK => pcheck_c c.height c.root w)) ?_
   intro _ _
   try simp only [setN, putD, selM, nth, cw, cx]
   refine am O (aM [0] [1] O O (by kernel_rfl) O O O O (fun w hM hK => see_c b7 (mustM (chk4 c) (decide (0 ≤ c.num) && decide (c.num ≤ 1000)) 2) (pubErr c.height) w (hM.sel [0] O).own)) ?_
   intro _ _
   try simp only [setN, putD, selM, nth, cw, cx]
   refine ai (ae ?_)
   refine hK12 _ _ (ah fun K13 hK13 => ?_)
   refine cq (X := Unit) (φ := fun _ => True) (L := fun _ => [(1, .pointer (some ⟨b1, 0, none⟩)), (3, .pointer (some ⟨b7, 0, none⟩))]) (M := fun _ => [.blk b7 (errsO (chkL c)), .blk b1 (.cells (flat (cseg c p)) 37 (0, 0))]) ?_ (fun hJa12 => ?_)
   ·
    intro _ _
    try dsimp only
    refine ae (hK13 _ _ ?_)
    refine ah fun K14 hK14 => aj (aa O O O (af O O) ?_)
    refine aa O O O (au (k := 74) O O (by kernel_rfl) O) ?_
    refine aa O O O (by first | exact al 0 O O O O (by kernel_rfl) | exact al 1 O O O O (by kernel_rfl)) ?_
    refine aa O O O (bf O O O Tryz.underlying9) (aa O O O (bD O O O) ?_)
    refine am O (aM [0] [1] O O (by kernel_rfl) O O O O (fun w hM hK => must_c b7 (chkL c) 5 (decide ((c.body.length : Int) ≤ 57344)) w (hM.sel [0] O).own)) ?_
    intro _ _
    try simp only [setN, putD, selM, nth, cw, cx]
    refine ai (ae ?_)
    refine hK14 _ _ (ah fun K15 hK15 => ?_)
    refine ah fun K16 hK16 => aj (aa O O O (af O O) ?_)
    refine aa O O O (aZ O O) (aa O O O (au (k := 0) O O (by kernel_rfl) O) ?_)
    refine aa O O O (by first | exact al 0 O O O O (by kernel_rfl) | exact al 1 O O O O (by kernel_rfl)) ?_
    refine aa O O O (bt O O O) (ai ?_)
    refine ae (hK16 _ _ ?_)
    refine aH O (fun hc96 => ?_) (fun hc96 => ?_)
    ·
     have h60 : chk6 c = 0 := by unfold chk6; simpa using hc96
     have hC : checkM c = seeM (chk6 c) (bodyE c.body) := if_pos h60
     refine ah fun K17 hK17 => aj (aa O O O (au (k := 74) O O (by kernel_rfl) O) ?_)
     refine aa O O O (by first | exact al 0 O O O O (by kernel_rfl) | exact al 1 O O O O (by kernel_rfl)) ?_
     refine am O (aM [] [0, 1] O O (by kernel_rfl) O O O O (fun w hM hK => checkBody_c c.body h4 w (hG.keep hK))) ?_
     intro zb _
     try simp only [setN, putD, selM, nth, cw, cx]
     refine aa O O O (af O O) (aa O O O (aW O O O) ?_)
     refine aa O O O (aW O O O) (aa O O O (ak O O) ?_)
     refine ai (ae ?_)
     refine hK17 _ _ (aj ?_)
     refine aa O O O (af O O) (aa O O O (af O O) ?_)
     refine am O (aM [0] [1] O O (by kernel_rfl) O O O O (fun w hM hK => see_c b7 (chk6 c) (bodyE c.body) w (hM.sel [0] O).own)) ?_
     intro _ _
     try simp only [setN, putD, selM, nth, cw, cx]
     refine ai (ae ?_)
     refine hK15 _ _ (ah fun K18 hK18 => ?_)
     refine aj (aa O O O (af O O) ?_)
     refine aa O O O (aZ O O) (aa O O O (au (k := 0) O O (by kernel_rfl) O) ?_)
     refine aa O O O (by first | exact al 0 O O O O (by kernel_rfl) | exact al 1 O O O O (by kernel_rfl)) ?_
     refine aa O O O (ak O O) (ai ?_)
     refine ae (hK18 _ _ ?_)
     refine aw av (ar O (.cons (.tmp O) .nil) O) (fun w' hM' hK' => ?_)
     exact ⟨by rw [hC]; rfl, hK'⟩
    ·
     have h60 : ¬ chk6 c = 0 := by unfold chk6; simpa using hc96
     have hC : checkM c = chk6 c := if_neg h60
     refine aC (ae ?_)
     refine hK15 _ _ (ah fun K19 hK19 => ?_)
     refine aj (aa O O O (af O O) ?_)
     refine aa O O O (aZ O O) (aa O O O (au (k := 0) O O (by kernel_rfl) O) ?_)
     refine aa O O O (by first | exact al 0 O O O O (by kernel_rfl) | exact al 1 O O O O (by kernel_rfl)) ?_
     refine aa O O O (ak O O) (ai ?_)
     refine ae (hK19 _ _ ?_)
     refine aw av (ar O (.cons (.tmp O) .nil) O) (fun w' hM' hK' => ?_)
     exact ⟨by rw [hC]; rfl, hK'⟩
   refine bX 20 mixed (by kernel_rfl) O O (fun wd12 => ?_)
   refine aD O O O (af O O) (aD O O O (af O O) ?_)
   refine aD O O O (aZ O O) (aD O O O (au (k := 0) O O (by kernel_rfl) O) ?_)
   refine aD O O O (by first | exact al 0 O O O O (by kernel_rfl) | exact al 1 O O O O (by kernel_rfl)) ?_
   refine aD O O O (bl O O O) (aD O O O (af O O) ?_)
   refine SL.OkS.split (d := 71) O (fun hg71 => ?_) (fun hg71 => ?_)
   ·
    have h50 : ¬ chk5 c = 0 := by unfold chk5; simpa using hg71
    have hl2 : chkL c = mustM (chk5 c) true 2 := by rw [chkL, decide_eq_false h50]; rfl
    refine SL.OkS.opS O O O O O O O (SL.OkS.opS O O O O O O O ?_)
    refine SL.OkS.opS O O O O O O O (SL.OkS.opS O O O O O O O ?_)
    refine SL.OkS.opU O O O O O O (SL.OkS.opU O O O O O O ?_)
    refine SL.OkS.opU O O O O O O (SL.OkS.opU O O O O O O ?_)
    refine SL.OkS.opU O O O O O O (SL.OkS.opU O O O O O O ?_)
    refine SL.OkS.opU O O O O O O (SL.OkS.opS O O O O O O O ?_)
    refine aD O O O (aF O O O) (bV ?_)
    refine am O (aM [0] [1] O O (by kernel_rfl) O O O O (fun w hM hK => must_c b7 (chk5 c) 2 _ w (hM.sel [0] O).own)) ?_
    intro _ _
    try simp only [setN, putD, selM, nth, cw, cx]
    refine ai ?_
    exact bI (hJa12 () trivial) [0, 1] ⟨rfl, rfl, trivial⟩ (by rw [hl2]; rfl) rfl
   ·
    have h50 : chk5 c = 0 := by unfold chk5; simpa using hg71
    have hhb := chk5_height h50
    refine SL.OkS.opG O O O O O O O (au (k := 73) O O (by kernel_rfl) O) ?_
    refine SL.OkS.opG O O O O O O O (by first | exact al 0 O O O O (by kernel_rfl) | exact al 1 O O O O (by kernel_rfl)) ?_
    refine SL.OkS.opG O O O O O O O (bB O O O) (SL.OkS.opG O O O O O O O (af O O) ?_)
    refine SL.OkS.split (d := 75) O (fun hg75 => ?_) (fun hg75 => ?_)
    ·
     have hl0 : 0 ≤ c.leaf := by simpa using hg75
     have hl2 : chkL c = mustM (chk5 c) (decide (c.leaf < ((2 ^ c.height.toNat : Nat) : Int))) 2 := by rw [chkL, decide_eq_true h50, leafB, decide_eq_true hl0]; rfl
     refine SL.OkS.opG O O O O O O O (au (k := 73) O O (by kernel_rfl) O) ?_
     refine SL.OkS.opG O O O O O O O (by first | exact al 0 O O O O (by kernel_rfl) | exact al 1 O O O O (by kernel_rfl)) ?_
     refine SL.OkS.opG O O O O O O O (au (k := 56) O O (by kernel_rfl) O) ?_
     refine SL.OkS.opG O O O O O O O (au (k := 0) O O (by kernel_rfl) O) ?_
     refine SL.OkS.opG O O O O O O O (by first | exact al 0 O O O O (by kernel_rfl) | exact al 1 O O O O (by kernel_rfl)) ?_
     refine SL.OkS.opG O O O O O O O (cv (r := ((2 ^ c.height.toNat : Nat) : Int)) O O O (by omega) (by have h := SL.shl_pow 1 c.height.toNat (by omega) (by have := Nat.pow_le_pow_right (n := 2) (by decide) (show c.height.toNat ≤ 8 by omega); omega); rw [Nat.one_mul, show ((c.height.toNat : Nat) : Int) = c.height by omega] at h; exact h)) ?_
     refine SL.OkS.opG O O O O O O O (aT O O O) (SL.OkS.opG O O O O O O O (aF O O O) ?_)
     refine aD O O O (aE O O O) (bV ?_)
     refine am O (aM [0] [1] O O (by kernel_rfl) O O O O (fun w hM hK => must_c b7 (chk5 c) 2 _ w (hM.sel [0] O).own)) ?_
     intro _ _
     try simp only [setN, putD, selM, nth, cw, cx]
     refine ai ?_
     exact bI (hJa12 () trivial) [0, 1] ⟨rfl, rfl, trivial⟩ (by rw [hl2]; rfl) rfl
    ·
     have hl0 : ¬ 0 ≤ c.leaf := by simpa using hg75
     have hl2 : chkL c = mustM (chk5 c) false 2 := by rw [chkL, decide_eq_true h50, leafB, decide_eq_false hl0]; rfl
     refine SL.OkS.opS O O O O O O O (SL.OkS.opS O O O O O O O ?_)
     refine SL.OkS.opS O O O O O O O (SL.OkS.opS O O O O O O O ?_)
     refine SL.OkS.opS O O O O O O O (SL.OkS.opS O O O O O O O ?_)
     refine SL.OkS.opS O O O O O O O (SL.OkS.opG O O O O O O O (aE O O O) ?_)
     refine aD O O O (aE O O O) (bV ?_)
     refine am O (aM [0] [1] O O (by kernel_rfl) O O O O (fun w hM hK => must_c b7 (chk5 c) 2 _ w (hM.sel [0] O).own)) ?_
     intro _ _
     try simp only [setN, putD, selM, nth, cw, cx]
     refine ai ?_
     exact bI (hJa12 () trivial) [0, 1] ⟨rfl, rfl, trivial⟩ (by rw [hl2]; rfl) rfl
  refine aj (aa O O O (af O O) ?_)
  refine aa O O O (au (k := 55) O O (by kernel_rfl) O) ?_
  refine aa O O O (by first | exact al 0 O O O O (by kernel_rfl) | exact al 1 O O O O (by kernel_rfl)) ?_
  refine aa O O O (bB O O O) (aa O O O (af O O) ?_)
  refine aR (d := 54) O (fun hg54 => ?_) (fun hg54 => ?_)
  ·
   have hn0 : 0 ≤ c.num := by simpa using hg54
   have hn2 : mustM (chk4 c) (decide (0 ≤ c.num) && decide (c.num ≤ 1000)) 2 = mustM (chk4 c) (decide (c.num ≤ 1000)) 2 := by rw [decide_eq_true hn0, Bool.true_and]
   refine aq O O O O O O O (au (k := 55) O O (by kernel_rfl) O) ?_
   refine aq O O O O O O O (by first | exact al 0 O O O O (by kernel_rfl) | exact al 1 O O O O (by kernel_rfl)) ?_
   refine aq O O O O O O O (bD O O O) (aa O O O (aF O O O) ?_)
   refine am O (aM [0] [1] O O (by kernel_rfl) O O O O (fun w hM hK => must_c b7 (chk4 c) 2 _ w (hM.sel [0] O).own)) ?_
   intro _ _
   try simp only [setN, putD, selM, nth, cw, cx]
   refine ai ?_
   exact bI (hJa10 () trivial) [0, 1] ⟨rfl, rfl, trivial⟩ (by rw [hn2]; rfl) rfl
  ·
   have hn0 : ¬ 0 ≤ c.num := by simpa using hg54
   have hn2 : mustM (chk4 c) (decide (0 ≤ c.num) && decide (c.num ≤ 1000)) 2 = mustM (chk4 c) false 2 := by rw [decide_eq_false hn0, Bool.false_and]
   refine ag O O O O O O O (ag O O O O O O O ?_)
   refine ag O O O O O O O (aa O O O (aE O O O) ?_)
   refine am O (aM [0] [1] O O (by kernel_rfl) O O O O (fun w hM hK => must_c b7 (chk4 c) 2 _ w (hM.sel [0] O).own)) ?_
   intro _ _
   try simp only [setN, putD, selM, nth, cw, cx]
   refine ai ?_
   exact bI (hJa10 () trivial) [0, 1] ⟨rfl, rfl, trivial⟩ (by rw [hn2]; rfl) rfl
 refine aj (aa O O O (af O O) ?_)
 refine aa O O O (au (k := 17) O O (by kernel_rfl) O) ?_
 refine aa O O O (by first | exact al 0 O O O O (by kernel_rfl) | exact al 1 O O O O (by kernel_rfl)) ?_
 refine aa O O O (bB O O O) (aa O O O (af O O) ?_)
 refine aR (d := 16) O (fun hg16 => ?_) (fun hg16 => ?_)
 ·
  have hd0 : 0 ≤ c.date := by simpa using hg16
  have hd2 : chk2 c = mustM (chk1 c) (decide (c.date ≤ 105190559)) 13 := by rw [chk2, decide_eq_true hd0, Bool.true_and]
  refine aq O O O O O O O (au (k := 17) O O (by kernel_rfl) O) ?_
  refine aq O O O O O O O (by first | exact al 0 O O O O (by kernel_rfl) | exact al 1 O O O O (by kernel_rfl)) ?_
  refine aq O O O O O O O (bD O O O) (aa O O O (aF O O O) ?_)
  refine am O (aM [0] [1] O O (by kernel_rfl) O O O O (fun w hM hK => must_c b7 (chk1 c) 13 _ w (hM.sel [0] O).own)) ?_
  intro _ _
  try simp only [setN, putD, selM, nth, cw, cx]
  refine ai ?_
  exact bI (hJa3 () trivial) [0, 1] ⟨rfl, rfl, trivial⟩ (by rw [hd2]; rfl) rfl
 ·
  have hd0 : ¬ 0 ≤ c.date := by simpa using hg16
  have hd2 : chk2 c = mustM (chk1 c) false 13 := by rw [chk2, decide_eq_false hd0, Bool.false_and]
  refine ag O O O O O O O (ag O O O O O O O ?_)
  refine ag O O O O O O O (aa O O O (aE O O O) ?_)
  refine am O (aM [0] [1] O O (by kernel_rfl) O O O O (fun w hM hK => must_c b7 (chk1 c) 13 _ w (hM.sel [0] O).own)) ?_
  intro _ _
  try simp only [setN, putD, selM, nth, cw, cx]
  refine ai ?_
  exact bI (hJa3 () trivial) [0, 1] ⟨rfl, rfl, trivial⟩ (by rw [hd2]; rfl) rfl
end Go.Proofs.YthfhhkanpnemcaaGreatDoor
namespace Go.Proofs.YthfhhkanpnemcaaGreatDoor
open Go.SL Go.RowKit IntWalk
set_option linter.unusedVariables false
set_option maxRecDepth 100000
set_option linter.unusedSimpArgs false
set_option maxHeartbeats 400000

theorem seeM_0 {x e : Int} : seeM x e = 0 ↔ x = 0 ∧ e = 0 := by
 unfold seeM
 by_cases h : x = 0
 ·
  rw [if_pos h]; simp [h]
 ·
  rw [if_neg h]; simp [h]
theorem mustM_0 {x e : Int} {is : Bool} (he : e ≠ 0) : mustM x is e = 0 ↔ x = 0 ∧ is = true := by
 unfold mustM
 cases is
 ·
  simp only [Bool.false_eq_true, if_false, and_false, iff_false]
  rw [seeM_0]; exact fun h => he h.2
 ·
  simp
theorem textM_0 {x : Int} {s : List UInt8} {m : Int} : textM x s m = 0 ↔ x = 0 ∧ (s.length : Int) ≤ m ∧ prn s = true ∧ sqz s = true := by
 unfold textM
 rw [mustM_0 (by decide), mustM_0 (by decide), mustM_0 (by decide), decide_eq_true_eq]
 constructor
 ·
  rintro ⟨⟨⟨h1, h2⟩, h3⟩, h4⟩; exact ⟨h1, h2, h3, h4⟩
 ·
  rintro ⟨h1, h2, h3, h4⟩; exact ⟨⟨⟨h1, h2⟩, h3⟩, h4⟩
/-- what a content without error is like -/
structure Good (c : Con) : Prop where
 date : 0 ≤ c.date ∧ c.date ≤ 105190559
 groups : fmtErr c.groups = 0
 refs : refErr c.refs = 0
 num : 0 ≤ c.num ∧ c.num ≤ 1000
 height : pubErr c.height = 0
 leaf : 0 ≤ c.leaf ∧ c.leaf < ((2 ^ c.height.toNat : Nat) : Int)
 body : c.body.length ≤ 57344
theorem good_of {c : Con} (h : checkM c = 0) : Good c := by
 have h6 : chk6 c = 0 := by
  unfold checkM at h
  split at h
  ·
   assumption
  ·
   exact h
 have hC := h6
 unfold chk6 chkL at h6
 rw [mustM_0 (by decide), mustM_0 (by decide)] at h6
 obtain ⟨⟨h5, hl⟩, hb⟩ := h6
 rw [h5] at hl
 simp only [decide_true, Bool.not_true, Bool.false_or, leafB, Bool.and_eq_true, decide_eq_true_eq] at hl hb
 unfold chk5 at h5
 rw [seeM_0, mustM_0 (by decide), Bool.and_eq_true, decide_eq_true_eq, decide_eq_true_eq] at h5
 obtain ⟨⟨h4, hn⟩, hp⟩ := h5
 unfold chk4 distM at h4
 rw [mustM_0 (by decide), mustM_0 (by decide)] at h4
 obtain ⟨⟨h4, _⟩, _⟩ := h4
 have h3 : seeM (chk3 c) (refErr c.refs) = 0 := by
  unfold ctrlM at h4
  split at h4
  ·
   exact h4
  ·
   rw [mustM_0 (by decide), seeM_0, mustM_0 (by decide)] at h4; exact h4.1.1.1
 rw [seeM_0] at h3
 obtain ⟨h3, hr⟩ := h3
 unfold chk3 at h3
 rw [textM_0, seeM_0] at h3
 obtain ⟨⟨h2, hg⟩, _⟩ := h3
 unfold chk2 at h2
 rw [mustM_0 (by decide), Bool.and_eq_true, decide_eq_true_eq, decide_eq_true_eq] at h2
 exact ⟨h2.2, hg, hr, hn, hp, hl, by omega⟩

/-- bounds under which the form is walked -/
structure CBF (c : Con) : Prop where
 name : c.name.length ≤ 10000
 subj : c.subj.length ≤ 10000
 ctl : c.ctl.length ≤ 10000
 dist : c.dist.length ≤ 10000
 body : c.body.length ≤ 1000000
 gl : c.groups.length ≤ 1000
 gj : (Lib.join c.groups [44]).length ≤ 10000
 ge : ∀ x ∈ c.groups, x.length ≤ 10000
 refs : c.refs.length ≤ 1000
theorem CBF.c {c : Con} (h : CBF c) : CBC c := ⟨by have := h.name; omega, by have := h.subj; omega, by have := h.ctl; omega, h.body, by have := h.gl; omega, by have := h.gj; omega, fun x hx => by have := h.ge x hx; omega⟩
theorem CBF.p {c : Con} (h : CBF c) (hk : checkM c = 0) : CBP c := by
 have g := good_of hk
 have hh := pubErr_ok g.height
 have h2 : (2 : Nat) ^ c.height.toNat ≤ 2 ^ 8 := Nat.pow_le_pow_right (by decide) (by omega)
 have := g.date; have := g.num; have := g.leaf; have := g.body
 exact { name := by have := h.name; omega, date := by omega, groups := by rw [← join_jn]; have := h.gj; omega, subj := by have := h.subj; omega, refs := h.refs, ctl := by have := h.ctl; omega, dist := by have := h.dist; omega, num := by omega, leaf := by omega, body := by omega, gl := h.gl, gj := by have := h.gj; omega, ge := fun x hx => by have := h.ge x hx; omega }

def formP (c : Con) : List UInt8 := Lib.join (partsP c) [10] ++ [10] ++ c.body
theorem join_sum (sep : List UInt8) : ∀ xs : List (List UInt8), (Lib.join xs sep).length ≤ (xs.map fun x => x.length + sep.length).sum
 | [] => by simp [Lib.join, List.intercalate]
 | [x] => by simp [Lib.join, List.intercalate]
 | x :: y :: r => by
  have ih := join_sum sep (y :: r)
  rw [Lib.join_cons] at ih ⊢
  simp only [Lib.joinTail, List.map_cons, List.sum_cons, List.length_append, List.flatten_cons] at ih ⊢
  omega
theorem partsJ_len {c : Con} (h : CBF c) (hk : checkM c = 0) : (Lib.join (partsP c) [10]).length ≤ 200000 := by
 have hp := h.p hk
 have g := good_of hk
 have h1 := h.name; have h2 := hexs_len c.author.l; have h3 := decI_len c.date hp.date.2; have h5 := h.subj
 have h6 := refsM_len c h.refs; have h7 := msgM_len c.sup; have h8 := h.ctl; have h9 := h.dist; have h10 := keyP_len c hp.num.2; have h11 := decI_len c.leaf hp.leaf.2; have h14 := h.gj
 have hgr : (grM c).length ≤ 10000 := by
  unfold grM; split
  ·
   exact h14
  ·
   simp
 have hrf : (rfM c).length ≤ 72000 := by
  unfold rfM; split
  ·
   exact h6
  ·
   simp
 rw [c.author.h] at h2
 have := join_sum [10] (partsP c)
 simp only [partsP, List.map_cons, List.map_nil, List.sum_cons, List.sum_nil, List.length_append, List.length_cons, List.length_nil] at this
 unfold partsP
 omega

def frmS (c : Con) : List UInt8 := if checkM c = 0 then formP c else []
def idB (c : Con) : B 32 := if checkM c = 0 then sha (formP c) else B.zero 32
theorem form_c (c : Con) (p : CAt) (h : CBF c) (w : World) (hG : Glob w) (hR : CRd w c p) :
  Calls Tryz.prog 14 [.agg (flat (cseg c p))].toArray w fun e w' => e = .returned (.tuple #[str (frmS c), .int .i64 (checkM c)]) ∧ Keeps none1 w w' := by
 have hkR : ∀ {w'}, Keeps none1 w w' → CRd w' c p := fun hk => ⟨hR.1.keep hk, hR.2.1.keep hk, hR.2.2⟩
 refine aJ (n := 17) (W := SL.none1) (m := []) Tryz.func14 O Tryz.ntmps14 O (aO _ _ _) ?_
 simp only [SL.enum, Nat.reduceAdd]
 refine ah fun K1 hK1 => aj (am O (bh _ O O O O O) ?_)
 intro b1 _
 try simp only [setN, putD, selM, nth, cw, cx]
 refine aa O O O (ak O O) (aa O O O (ak O O) ?_)
 refine ai (ae ?_)
 refine hK1 _ _ (ah fun K2 hK2 => ?_)
 refine ah fun K3 hK3 => aj (aa O O O (by first | exact ay 0 (k := 75) O O O (by kernel_rfl) O (by kernel_rfl)) ?_)
 refine am O (aN O O (by kernel_rfl) O O (fun w hM hK => ccheck_c c p h.c w (hG.keep hK) (hkR hK))) ?_
 intro _ _
 try simp only [setN, putD, selM, nth, cw, cx]
 refine aa O O O (ak O O) (ai ?_)
 refine ae (hK3 _ _ ?_)
 refine ah fun K4 hK4 => aj (aa O O O (af O O) ?_)
 refine aa O O O (bl O O O) (ai ?_)
 refine ae (hK4 _ _ ?_)
 refine aH O (fun hc8 => ?_) (fun hc8 => ?_)
 ·
  have hk : ¬ checkM c = 0 := by simpa using hc8
  have hF : frmS c = [] := if_neg hk
  refine ah fun K5 hK5 => aj (aa O O O (af O O) ?_)
  refine aa O O O (ak O O) (aa O O O (ak O O) ?_)
  refine ai (ae ?_)
  refine hK5 _ _ (aw (aB av) (ar O (.cons (.tmp O) (.cons (.tmp O) .nil)) O) (fun w' hM' hK' => ?_))
  exact ⟨by rw [hF]; rfl, hK'⟩
 ·
  have hk : checkM c = 0 := by simpa using hc8
  have hF : frmS c = formP c := if_pos hk
  have hl := partsJ_len h hk
  have hb := (good_of hk).body
  refine aC (ae ?_)
  refine hK2 _ _ (ah fun K6 hK6 => ?_)
  refine ck [0] mixed O O ?_
  simp only [List.replicate, List.length_cons, List.length_nil, Nat.reduceAdd, SL.selM, SL.nth]
  refine aG 0 O O O O (by kernel_rfl) (by kernel_rfl) (by kernel_rfl) O (fun _ _ _ h => h) [0] O O (by first | exact ay 0 (k := 75) O O O (by kernel_rfl) O (by kernel_rfl)) ?_
  refine aG 4 O O O O (by kernel_rfl) (by kernel_rfl) (by kernel_rfl) O (fun _ _ _ h => h) [0] O O (au (k := 74) O O (by kernel_rfl) O) ?_
  refine aG 5 O O O O (by kernel_rfl) (by kernel_rfl) (by kernel_rfl) O (fun _ _ _ h => h) [0] O O (by first | exact al 0 O O O O (by kernel_rfl)) ?_
  refine aY 1 O O (by kernel_rfl) O [1] (fun _ => rfl) O (bJ O (aM [] [0] O O (by kernel_rfl) O O O O (fun w hM hK => parts_c c p (h.p hk) w (hG.keep hK) (hkR hK)))) ?_
  intro g11 _
  try simp only [setN, putD, selM, nth, cw, cx]
  refine aY 2 O O (by kernel_rfl) O [1] (fun _ => rfl) O (bJ O (aN O O (by kernel_rfl) O O (fun w hM hK => join_c (partsP c) [10] (some ⟨g11, 0, none⟩) 12 12 (Nat.le_refl _) (by omega) (by show (12 : Nat) ≤ _; decide) w (bK (i := 0) O hM)))) ?_
  intro _ _
  try simp only [setN, putD, selM, nth, cw, cx]
  refine aG 3 O O O O (by kernel_rfl) (by kernel_rfl) (by kernel_rfl) O (fun _ _ _ h => h) [1] O O (ba O O (show _ = some (str [10]) from O) (by simp; omega)) ?_
  refine aG 6 O O O O (by kernel_rfl) (by kernel_rfl) (by kernel_rfl) O (fun _ _ _ h => h) [1] O O (ba O O O (by simp; omega)) ?_
  refine aG 7 O O O O (by kernel_rfl) (by kernel_rfl) (by kernel_rfl) O (fun _ _ _ h => h) [1] O O (ak O O) ?_
  refine aG 8 O O O O (by kernel_rfl) (by kernel_rfl) (by kernel_rfl) O (fun _ _ _ h => h) [1] O O (ak O O) ?_
  refine bN (by kernel_rfl) ?_
  refine ae (hK6 _ _ ?_)
  refine aw av (ar O (.cons (.tmp O) (.cons (.tmp O) .nil)) O) (fun w' hM' hK' => ?_)
  exact ⟨by rw [hF, hk]; rfl, hK'⟩
theorem cid_c (c : Con) (p : CAt) (h : CBF c) (w : World) (hG : Glob w) (hR : CRd w c p) :
  Calls Tryz.prog 8 [.agg (flat (cseg c p))].toArray w fun e w' => e = .returned (.tuple #[.agg (flat [(idB c).seg]), .int .i64 (checkM c)]) ∧ Keeps none1 w w' := by
 have hkR : ∀ {w'}, Keeps none1 w w' → CRd w' c p := fun hk => ⟨hR.1.keep hk, hR.2.1.keep hk, hR.2.2⟩
 refine aJ (n := 18) (W := SL.none1) (m := []) Tryz.func8 O Tryz.ntmps8 O (aO _ _ _) ?_
 simp only [SL.enum, Nat.reduceAdd]
 refine ah fun K1 hK1 => aj (am O (bh _ O O O O O) ?_)
 intro b1 _
 try simp only [setN, putD, selM, nth, cw, cx]
 refine am O (aX [(B.zero 32).seg] O O O (by kernel_rfl)) ?_
 intro b2 _
 try simp only [setN, putD, selM, nth, cw, cx]
 refine aa O O O (ak O O) (ai ?_)
 refine ae (hK1 _ _ ?_)
 refine ah fun K2 hK2 => aj (aa O O O (by first | exact ay 0 (k := 75) O O O (by kernel_rfl) O (by kernel_rfl) | exact ay 1 (k := 75) O O O (by kernel_rfl) O (by kernel_rfl)) ?_)
 refine am O (aN O O (by kernel_rfl) O O (fun w hM hK => form_c c p h w (hG.keep hK) (hkR hK))) ?_
 intro _ _
 try simp only [setN, putD, selM, nth, cw, cx]
 refine aa O O O (af O O) (aa O O O (aW O O O) ?_)
 refine aa O O O (aW O O O) (aa O O O (ak O O) ?_)
 refine aa O O O (ak O O) (ai ?_)
 refine ae (hK2 _ _ ?_)
 refine ah fun K3 hK3 => ah fun K4 hK4 => aj (aa O O O (af O O) ?_)
 refine aa O O O (bl O O O) (ai ?_)
 refine ae (hK4 _ _ ?_)
 refine aH O (fun hc12 => ?_) (fun hc12 => ?_)
 ·
  have hk : ¬ checkM c = 0 := by simpa using hc12
  have hF : idB c = B.zero 32 := if_neg hk
  refine ah fun K5 hK5 => aj (aa O O O (bg [(0, 1), (1, 1), (2, 1), (3, 1), (4, 1), (5, 1), (6, 1), (7, 1), (8, 1), (9, 1), (10, 1), (11, 1), (12, 1), (13, 1), (14, 1), (15, 1), (16, 1), (17, 1), (18, 1), (19, 1), (20, 1), (21, 1), (22, 1), (23, 1), (24, 1), (25, 1), (26, 1), (27, 1), (28, 1), (29, 1), (30, 1), (31, 1)] [(B.zero 32).seg] O O .nil (by kernel_rfl) (by kernel_rfl) O) ?_)
  refine aa O O O (af O O) (am O (by first | exact ap (k := 32) 0 _ O O O O O O (by kernel_rfl) O O | exact ap (k := 32) 1 _ O O O O O O (by kernel_rfl) O O) ?_)
  intro _ _
  try simp only [setN, putD, selM, nth, cw, cx]
  refine aa O O O (ak O O) (ai ?_)
  refine ae (hK5 _ _ ?_)
  refine aw (aB av) (ar O (.cons (by first | exact SL.RV.cellA 0 (k := 32) O O (by kernel_rfl) O (by kernel_rfl) | exact SL.RV.cellA 1 (k := 32) O O (by kernel_rfl) O (by kernel_rfl)) (.cons (.tmp O) .nil)) O) (fun w' hM' hK' => ?_)
  exact ⟨by rw [hF]; rfl, hK'⟩
 ·
  have hk : checkM c = 0 := by simpa using hc12
  have hF : idB c = sha (formP c) := if_pos hk
  have hf : frmS c = formP c := if_pos hk
  have hl := partsJ_len h hk
  have hb := (good_of hk).body
  have hfl : (formP c).length ≤ 900000 := by unfold formP; simp; omega
  simp only [hf]
  refine aC (ae ?_)
  refine hK3 _ _ (ah fun K6 hK6 => ?_)
  refine aj (aa O O O (af O O) ?_)
  refine am O (SL.Eff.strBytes O O Tryz.underlying9 Tryz.underlying52 Tryz.underlying5 O O) ?_
  intro ⟨gb, gc, gcs, gfz⟩ ⟨hpad, hcap⟩
  try simp only [setN, putD, selM, nth, cw, cx]
  refine am O (aN O O (by kernel_rfl) O O (fun w hM hK => sha_c (formP c) (some ⟨gb, 0, none⟩) (formP c).length gc hfl w (SL.RC.ofBytes (SL.Mem.blk (i := 0) O hM) hpad (by unfold maxLen; omega)))) ?_
  intro _ _
  try simp only [setN, putD, selM, nth, cw, cx]
  refine am O (by first | exact ap (k := 32) 0 _ O O O O O O (by kernel_rfl) O O | exact ap (k := 32) 1 _ O O O O O O (by kernel_rfl) O O | exact ap (k := 32) 2 _ O O O O O O (by kernel_rfl) O O) ?_
  intro _ _
  try simp only [setN, putD, selM, nth, cw, cx]
  refine aa O O O (ak O O) (ai ?_)
  refine ae (hK6 _ _ ?_)
  refine aw av (ar O (.cons (by first | exact SL.RV.cellA 0 (k := 32) O O (by kernel_rfl) O (by kernel_rfl) | exact SL.RV.cellA 1 (k := 32) O O (by kernel_rfl) O (by kernel_rfl) | exact SL.RV.cellA 2 (k := 32) O O (by kernel_rfl) O (by kernel_rfl)) (.cons (.tmp O) .nil)) O) (fun w' hM' hK' => ?_)
  exact ⟨by rw [hF, hk]; rfl, hK'⟩
end Go.Proofs.YthfhhkanpnemcaaGreatDoor
namespace Go.Proofs.YthfhhkanpnemcaaGreatDoor
open Go.SL Go.RowKit IntWalk
set_option linter.unusedVariables false
set_option maxRecDepth 100000
set_option linter.unusedSimpArgs false
set_option maxHeartbeats 400000

theorem sEqual_c (xs ys : List (List UInt8)) (a b : Option Addr) (la ca lb cb : Nat) (w : World) (hA : RC 1 w a la (xs.map str)) (hB : RC 1 w b lb (ys.map str)) :
  Calls Tryz.prog 17 [.slice a la ca, .slice b lb cb].toArray w fun e w' => e = .returned (.bool (decide (xs = ys))) ∧ Keeps none1 w w' := by
 obtain ⟨h1, h2, h3⟩ := hA
 obtain ⟨g1, g2, g3⟩ := hB
 have hl : xs.length = la := by simpa using h1
 have gl : ys.length = lb := by simpa using g1
 subst hl gl
 unfold maxLen at h2 g2
 refine aJ (n := 26) (W := SL.none1) (m := []) Tryz.func17 O Tryz.ntmps17 O (aO _ _ _) ?_
 simp only [SL.enum, Nat.reduceAdd]
 refine ah fun K1 hK1 => aj (aa O O O (ak O O) ?_)
 refine ai (ae ?_)
 refine hK1 _ _ (ah fun K2 hK2 => ?_)
 refine ah fun K3 hK3 => aj (aa O O O (af O O) ?_)
 refine aa O O O (bw O O O Tryz.underlying23) (aa O O O (af O O) ?_)
 refine aa O O O (bw O O O Tryz.underlying23) (aa O O O (bl O O O) ?_)
 refine ai (ae ?_)
 refine hK3 _ _ (aH O (fun hc10 => ?_) (fun hc10 => ?_))
 ·
  have hne : ¬ xs.length = ys.length := by simp at hc10; omega
  refine ah fun K4 hK4 => aj (aa O O O (ak O O) ?_)
  refine ai (ae ?_)
  refine hK4 _ _ (aw (aB av) (ar O (.cons (.tmp O) .nil) O) (fun w' hM' hK' => ?_))
  exact ⟨by rw [decide_eq_false (fun h => hne (by rw [h]))]; rfl, hK'⟩
 ·
  have hne : xs.length = ys.length := by simp at hc10; omega
  refine aC (ae ?_)
  refine hK2 _ _ (ah fun K5 hK5 => ?_)
  refine ah fun K6 hK6 => aj (aa O O O (af O O) ?_)
  refine aa O O O (bw O O O Tryz.underlying23) (aa O O O (af O O) ?_)
  refine ai (ae ?_)
  refine hK6 _ _ (aK ?_)
  refine bu (X := Nat) (φ := fun i => i ≤ xs.length ∧ xs.take i = ys.take i) (L := fun i => [(0, .slice a xs.length ca), (1, .slice b ys.length cb), (12, .int .i64 xs.length), (13, .int .i64 i)]) (M := fun i => []) (μ := fun i => xs.length - i) ?_ ?_
  ·
   exact fun _ _ st => ⟨0, ⟨Nat.zero_le _, rfl⟩, st.to [] ⟨rfl, rfl, rfl, rfl, trivial⟩ O rfl⟩
  ·
   intro i ⟨hi, heq⟩
   try dsimp only
   refine ah fun K7 hK7 => aj (aa O O O (aT O O O) ?_)
   refine ai (ae ?_)
   refine hK7 _ _ (ah fun K8 hK8 => ?_)
   refine aH O (fun hc14 => ?_) (fun hc14 => ?_)
   ·
    have hlt : i < xs.length := by simp at hc14; omega
    have hlt' : i < ys.length := by omega
    rcases h3 with h3 | ⟨ab, ao, rfl, hab, hac⟩
    ·
     omega
    rcases g3 with g3 | ⟨bb, bo, rfl, hbb, hbc⟩
    ·
     omega
    have hx := hac i (str xs[i]) (by simp [hlt])
    have hy := hbc i (str ys[i]) (by simp [hlt'])
    refine aC (ae ?_)
    refine hK8 _ _ (ah fun K9 hK9 => ?_)
    refine aK (ah fun K10 hK10 => ?_)
    refine aj (aa O O O (af O O) ?_)
    refine aa O O O (ak O O) (ai ?_)
    refine ae (hK10 _ _ ?_)
    refine ah fun K11 hK11 => bX 8 mixed (by kernel_rfl) O O (fun wd6 => ?_)
    refine aD O O O (af O O) (aD O O O (af O O) ?_)
    refine aD O O O (bx (sz := 1) (off' := ao + i) O O O Tryz.underlying23 (by kernel_rfl) (by omega) (by omega) (by omega)) ?_
    refine aD O O O (cj hab (fun h => h) hx O O (by kernel_rfl)) ?_
    refine aD O O O (af O O) (aD O O O (af O O) ?_)
    refine aD O O O (bx (sz := 1) (off' := bo + i) O O O Tryz.underlying23 (by kernel_rfl) (by omega) (by omega) (by omega)) ?_
    refine aD O O O (cj hbb (fun h => h) hy O O (by kernel_rfl)) ?_
    refine bV (aa O O O (SL.Pure.neS O O O) ?_)
    refine ai (ae ?_)
    refine hK11 _ _ (aH O (fun hc24 => ?_) (fun hc24 => ?_))
    ·
     have hd : ¬ xs[i] = ys[i] := by simpa using hc24
     refine ah fun K12 hK12 => aj (aa O O O (ak O O) ?_)
     refine ai (ae ?_)
     refine hK12 _ _ (aw (aP (aB (aB (aP (aB av))))) (ar O (.cons (.tmp O) .nil) O) (fun w' hM' hK' => ?_))
     exact ⟨by rw [decide_eq_false (fun h => hd (by subst h; rfl))]; rfl, hK'⟩
    ·
     have hd : xs[i] = ys[i] := by simpa using hc24
     refine aC (aQ ?_)
     refine ae (hK9 _ _ ?_)
     refine aj (aa O O O (aL O O O O (by omega) (by omega)) ?_)
     refine aa O O O (af O O) (ai ?_)
     refine ae ?_
     exact bd (i + 1) [] ⟨by omega, by rw [List.take_succ_eq_append_getElem hlt, List.take_succ_eq_append_getElem hlt', heq, hd]⟩ (show xs.length - (i + 1) < xs.length - i by omega) ⟨rfl, rfl, rfl, rfl, trivial⟩ O rfl
   ·
    have hie : i = xs.length := by simp at hc14; omega
    have hall : xs = ys := by rw [hie, List.take_length, hne, List.take_length] at heq; exact heq
    refine aU (aI ?_)
    refine aI (aV ?_)
    refine ae (hK5 _ _ ?_)
    refine ah fun K13 hK13 => aj (aa O O O (ak O O) ?_)
    refine ai (ae ?_)
    refine hK13 _ _ (aw av (ar O (.cons (.tmp O) .nil) O) (fun w' hM' hK' => ?_))
    exact ⟨by rw [decide_eq_true hall]; rfl, hK'⟩
theorem iEqual_c (xs ys : List (B 32)) (a b : Option Addr) (la ca lb cb : Nat) (hca : la ≤ ca) (hcb : lb ≤ cb) (w : World) (hA : RC 32 w a la (idsV xs)) (hB : RC 32 w b lb (idsV ys)) :
  Calls Tryz.prog 18 [.slice a la ca, .slice b lb cb].toArray w fun e w' => e = .returned (.bool (decide (xs = ys))) ∧ Keeps none1 w w' := by
 obtain ⟨h1, h2, h3⟩ := hA
 obtain ⟨g1, g2, g3⟩ := hB
 have hl : xs.length = la := by rw [idsV_len] at h1; omega
 have gl : ys.length = lb := by rw [idsV_len] at g1; omega
 subst hl gl
 unfold maxLen at h2 g2
 refine aJ (n := 26) (W := SL.none1) (m := []) Tryz.func18 O Tryz.ntmps18 O (aO _ _ _) ?_
 simp only [SL.enum, Nat.reduceAdd]
 refine ah fun K1 hK1 => aj (aa O O O (ak O O) ?_)
 refine ai (ae ?_)
 refine hK1 _ _ (ah fun K2 hK2 => ?_)
 refine ah fun K3 hK3 => aj (aa O O O (af O O) ?_)
 refine aa O O O (bw O O O Tryz.underlying24) (aa O O O (af O O) ?_)
 refine aa O O O (bw O O O Tryz.underlying24) (aa O O O (bl O O O) ?_)
 refine ai (ae ?_)
 refine hK3 _ _ (aH O (fun hc10 => ?_) (fun hc10 => ?_))
 ·
  have hne : ¬ xs.length = ys.length := by simp at hc10; omega
  refine ah fun K4 hK4 => aj (aa O O O (ak O O) ?_)
  refine ai (ae ?_)
  refine hK4 _ _ (aw (aB av) (ar O (.cons (.tmp O) .nil) O) (fun w' hM' hK' => ?_))
  exact ⟨by rw [decide_eq_false (fun h => hne (by rw [h]))]; rfl, hK'⟩
 ·
  have hne : xs.length = ys.length := by simp at hc10; omega
  refine aC (ae ?_)
  refine hK2 _ _ (ah fun K5 hK5 => ?_)
  refine ah fun K6 hK6 => aj (aa O O O (af O O) ?_)
  refine aa O O O (bw O O O Tryz.underlying24) (aa O O O (af O O) ?_)
  refine ai (ae ?_)
  refine hK6 _ _ (aK ?_)
  refine bu (X := Nat) (φ := fun i => i ≤ xs.length ∧ xs.take i = ys.take i) (L := fun i => [(0, .slice a xs.length ca), (1, .slice b ys.length cb), (12, .int .i64 xs.length), (13, .int .i64 i)]) (M := fun i => []) (μ := fun i => xs.length - i) ?_ ?_
  ·
   exact fun _ _ st => ⟨0, ⟨Nat.zero_le _, rfl⟩, st.to [] ⟨rfl, rfl, rfl, rfl, trivial⟩ O rfl⟩
  ·
   intro i ⟨hi, heq⟩
   try dsimp only
   refine ah fun K7 hK7 => aj (aa O O O (aT O O O) ?_)
   refine ai (ae ?_)
   refine hK7 _ _ (ah fun K8 hK8 => ?_)
   refine aH O (fun hc14 => ?_) (fun hc14 => ?_)
   ·
    have hlt : i < xs.length := by simp at hc14; omega
    have hlt' : i < ys.length := by omega
    rcases h3 with h3 | ⟨ab, ao, rfl, hab, hac⟩
    ·
     omega
    rcases g3 with g3 | ⟨bb, bo, rfl, hbb, hbc⟩
    ·
     omega
    have hx := RC.id hac (show xs[i]? = some xs[i] from List.getElem?_eq_getElem hlt)
    have hy := RC.id hbc (show ys[i]? = some ys[i] from List.getElem?_eq_getElem hlt')
    refine aC (ae ?_)
    refine hK8 _ _ (ah fun K9 hK9 => ?_)
    refine aK (ah fun K10 hK10 => ?_)
    refine aj (aa O O O (af O O) ?_)
    refine aa O O O (ak O O) (ai ?_)
    refine ae (hK10 _ _ ?_)
    refine ah fun K11 hK11 => bX 8 mixed (by kernel_rfl) O O (fun wd6 => ?_)
    refine aD O O O (af O O) (aD O O O (af O O) ?_)
    refine aD O O O (bx (sz := 32) (off' := ao + i * 32) O O O Tryz.underlying24 (by kernel_rfl) (by omega) (by omega) (by omega)) ?_
    refine aD O O O (SL.Pure.loadOR (k := 32) hx hab (fun h => h) O O (by kernel_rfl) O (by kernel_rfl)) ?_
    refine aD O O O (af O O) (aD O O O (af O O) ?_)
    refine aD O O O (bx (sz := 32) (off' := bo + i * 32) O O O Tryz.underlying24 (by kernel_rfl) (by omega) (by omega) (by omega)) ?_
    refine aD O O O (SL.Pure.loadOR (k := 32) hy hbb (fun h => h) O O (by kernel_rfl) O (by kernel_rfl)) ?_
    refine bV (aa O O O (SL.Pure.neB O O O Tryz.underlying26 Tryz.underlying5 (by kernel_rfl) (by kernel_rfl)) ?_)
    refine ai (ae ?_)
    refine hK11 _ _ (aH O (fun hc24 => ?_) (fun hc24 => ?_))
    ·
     have hd : ¬ xs[i] = ys[i] := by simpa using hc24
     refine ah fun K12 hK12 => aj (aa O O O (ak O O) ?_)
     refine ai (ae ?_)
     refine hK12 _ _ (aw (aP (aB (aB (aP (aB av))))) (ar O (.cons (.tmp O) .nil) O) (fun w' hM' hK' => ?_))
     exact ⟨by rw [decide_eq_false (fun h => hd (by subst h; rfl))]; rfl, hK'⟩
    ·
     have hd : xs[i] = ys[i] := by simpa using hc24
     refine aC (aQ ?_)
     refine ae (hK9 _ _ ?_)
     refine aj (aa O O O (aL O O O O (by omega) (by omega)) ?_)
     refine aa O O O (af O O) (ai ?_)
     refine ae ?_
     exact bd (i + 1) [] ⟨by omega, by rw [List.take_succ_eq_append_getElem hlt, List.take_succ_eq_append_getElem hlt', heq, hd]⟩ (show xs.length - (i + 1) < xs.length - i by omega) ⟨rfl, rfl, rfl, rfl, trivial⟩ O rfl
   ·
    have hie : i = xs.length := by simp at hc14; omega
    have hall : xs = ys := by rw [hie, List.take_length, hne, List.take_length] at heq; exact heq
    refine aU (aI ?_)
    refine aI (aV ?_)
    refine ae (hK5 _ _ ?_)
    refine ah fun K13 hK13 => aj (aa O O O (ak O O) ?_)
    refine ai (ae ?_)
    refine hK13 _ _ (aw av (ar O (.cons (.tmp O) .nil) O) (fun w' hM' hK' => ?_))
    exact ⟨by rw [decide_eq_true hall]; rfl, hK'⟩

theorem sClone_c (xs : List (List UInt8)) (a : Option Addr) (len cap : Nat) (hb : xs.length ≤ 1000000) (w : World) (hR : RC 1 w a len (xs.map str)) :
  Calls Tryz.prog 26 [.slice a len cap].toArray w fun e w' => ∃ x : Option Addr × Nat, len ≤ x.2 ∧ e = .returned (.slice x.1 len x.2) ∧ Post w (blocksOf []) [.row (.slice x.1 len x.2) 9 1 len (xs.map str)] w' := by
 have hl : xs.length = len := by simpa using hR.1
 subst hl
 refine aJ (n := 8) (W := (blocksOf [])) (m := []) Tryz.func26 O Tryz.ntmps26 O (aO _ _ _) ?_
 simp only [SL.enum, Nat.reduceAdd]
 refine ah fun K1 hK1 => aj (aa O O O (ak O O) ?_)
 refine ai (ae ?_)
 refine hK1 _ _ (ah fun K2 hK2 => ?_)
 refine ah fun K3 hK3 => aj (aa O O O (af O O) ?_)
 refine aa O O O (SL.Pure.eqSlNil O O O Tryz.underlying23) (ai ?_)
 refine ae (hK3 _ _ ?_)
 refine aH O (fun hc4 => ?_) (fun hc4 => ?_)
 ·
  have hn : a = none := by cases a with
   | none => rfl
   | some q => cases hc4
  subst hn
  have h0 : xs.length = 0 := by
   rcases hR.2.2 with h | ⟨b, o, he, _⟩
   ·
    exact h
   ·
    cases he
  have hx0 : xs = [] := List.eq_nil_of_length_eq_zero h0
  subst hx0
  refine ah fun K4 hK4 => aj (aa O O O (ak O O) ?_)
  refine ai (ae ?_)
  refine hK4 _ _ (aw (aB av) (ar O (.cons (.tmp O) .nil) O) (fun w' hM' hK' => ?_))
  exact ⟨(none, 0), Nat.le_refl _, rfl, hK', (hM'.nilRow 9 1).sel [0] rfl⟩
 ·
  refine aC (ae ?_)
  refine hK2 _ _ (ah fun K5 hK5 => ?_)
  refine aj (am O (by exact SL.Eff.buildSliceE0 (sz := 1) O O Tryz.underlying23 (by kernel_rfl) O O) ?_)
  intro g5 _
  try simp only [setN, putD, selM, nth, cw, cx]
  refine aa O O O (af O O) (am O (by exact bF (by' := 16) 0 [] O O O O Tryz.underlying23 Tryz.underlying23 (by kernel_rfl) (fun w' hM hK => hR.keep (k0 hK)) (fun u hu => by obtain ⟨q, _, rfl⟩ := List.mem_map.1 hu; rfl) O O O O (by omega) (by omega)) ?_)
  intro v7 hv7
  try simp only [setN, putD, selM, nth, cw, cx]
  simp only [Nat.zero_add, List.nil_append]
  refine SL.Ok.rowSlice 0 O ?_
  rintro ⟨a', c', rfl, hc'⟩
  refine aa O O O (ak O O) (ai ?_)
  refine ae (hK5 _ _ ?_)
  refine aw av (ar O (.cons (.tmp O) .nil) O) (fun w' hM' hK' => ?_)
  exact ⟨(a', c'), hc', rfl, hK', hM'⟩
theorem iClone_c (xs : List (B 32)) (a : Option Addr) (len cap : Nat) (hb : xs.length ≤ 1000000) (w : World) (hR : RC 32 w a len (idsV xs)) :
  Calls Tryz.prog 27 [.slice a len cap].toArray w fun e w' => ∃ x : Option Addr × Nat, len ≤ x.2 ∧ e = .returned (.slice x.1 len x.2) ∧ Post w (blocksOf []) [.row (.slice x.1 len x.2) 26 32 len (idsV xs)] w' := by
 have hl : xs.length = len := by have := hR.1; rw [idsV_len] at this; omega
 subst hl
 refine aJ (n := 8) (W := (blocksOf [])) (m := []) Tryz.func27 O Tryz.ntmps27 O (aO _ _ _) ?_
 simp only [SL.enum, Nat.reduceAdd]
 refine ah fun K1 hK1 => aj (aa O O O (ak O O) ?_)
 refine ai (ae ?_)
 refine hK1 _ _ (ah fun K2 hK2 => ?_)
 refine ah fun K3 hK3 => aj (aa O O O (af O O) ?_)
 refine aa O O O (SL.Pure.eqSlNil O O O Tryz.underlying24) (ai ?_)
 refine ae (hK3 _ _ ?_)
 refine aH O (fun hc4 => ?_) (fun hc4 => ?_)
 ·
  have hn : a = none := by cases a with
   | none => rfl
   | some q => cases hc4
  subst hn
  have h0 : xs.length = 0 := by
   rcases hR.2.2 with h | ⟨b, o, he, _⟩
   ·
    exact h
   ·
    cases he
  have hx0 : xs = [] := List.eq_nil_of_length_eq_zero h0
  subst hx0
  refine ah fun K4 hK4 => aj (aa O O O (ak O O) ?_)
  refine ai (ae ?_)
  refine hK4 _ _ (aw (aB av) (ar O (.cons (.tmp O) .nil) O) (fun w' hM' hK' => ?_))
  exact ⟨(none, 0), Nat.le_refl _, rfl, hK', (hM'.nilRow 26 32).sel [0] rfl⟩
 ·
  refine aC (ae ?_)
  refine hK2 _ _ (ah fun K5 hK5 => ?_)
  refine aj (am O (by exact SL.Eff.buildSliceE0 (sz := 32) O O Tryz.underlying24 (by kernel_rfl) O O) ?_)
  intro g5 _
  try simp only [setN, putD, selM, nth, cw, cx]
  refine aa O O O (af O O) (am O (by exact bF (by' := 32) 0 [] O O O O Tryz.underlying24 Tryz.underlying24 (by kernel_rfl) (fun w' hM hK => hR.keep (k0 hK)) (fun u hu => idsV_one _ u hu) O O O O (by omega) (by omega)) ?_)
  intro v7 hv7
  try simp only [setN, putD, selM, nth, cw, cx]
  simp only [Nat.zero_add, List.nil_append]
  refine SL.Ok.rowSlice 0 O ?_
  rintro ⟨a', c', rfl, hc'⟩
  refine aa O O O (ak O O) (ai ?_)
  refine ae (hK5 _ _ ?_)
  refine aw av (ar O (.cons (.tmp O) .nil) O) (fun w' hM' hK' => ?_)
  exact ⟨(a', c'), hc', rfl, hK', hM'⟩

theorem pub1 (h : Int) (r : B 16) (w : World) : (part 3 (flat (pseg h r)) 0).run Tryz.prog w = .ok (.int .i64 h) w := run_part (b := false) (k := 1) (by kernel_rfl) (by kernel_rfl) (by show (flat (pseg h r))[0]? = _; rw [← at1_eq]; rfl) w
theorem pub2 (h : Int) (r : B 16) (w : World) : (part 22 (flat (pseg h r)) 1).run Tryz.prog w = .ok (.agg (flat [r.seg])) w := run_part (b := true) (k := 16) (by kernel_rfl) (by kernel_rfl) (by rw [if_pos rfl, (cut_spec (pseg h r) 1 16 [r.seg] rfl).1]) w
theorem arr16Eq (d : Nat) (a b : B 16) (w : World) : (Op.equalIn (d + 2) 22 (.agg (flat [a.seg])) (.agg (flat [b.seg]))).run Tryz.prog w = .ok (decide (a = b)) w := by
 rw [flat_seg, flat_seg, run_equalIn_bytes w d _ _ 16 Tryz.underlying22 Tryz.underlying5 (fun w => Go.SL.run_sizeOf (k := 1) (by kernel_rfl) w) a.l b.l a.h b.h]
 congr 1
 rw [Bool.eq_iff_iff]
 simp
 exact ⟨fun h => B.ext h, fun h => by rw [h]⟩
theorem pubEq_run (h h' : Int) (r r' : B 16) (w : World) : (Op.equalIn 10000 35 (.agg (flat (pseg h r))) (.agg (flat (pseg h' r')))).run Tryz.prog w = .ok (decide (h = h' ∧ r = r')) w := by
 rw [run_equalIn_struct w 9999 _ _ _ (by kernel_rfl) (by kernel_rfl)]
 have e3 : ∀ w, (Op.equalIn 9999 3 (.int .i64 h) (.int .i64 h')).run Tryz.prog w = .ok (decide (h = h')) w := fun w => by
  rw [run_equalIn_int w 9998 3 .i64 .i64 h h' Tryz.underlying3]; congr 1
 have e4 : ∀ w, (Op.equalIn 9999 22 (.agg (flat [r.seg])) (.agg (flat [r'.seg]))).run Tryz.prog w = .ok (decide (r = r')) w := fun w => arr16Eq 9997 r r' w
 have p1 := pub1 h r; have p2 := pub2 h r; have q1 := pub1 h' r'; have q2 := pub2 h' r'
 have hfo : ∃ f1 f2 : Field, (Tryz.prog.fieldsOf 35).toList = [f1, f2] ∧ f1.name ≠ "_" ∧ f2.name ≠ "_" ∧ f1.type = 3 ∧ f2.type = 22 ∧ f1.offset = 0 ∧ f2.offset = 1 := by
  simp only [Program.fieldsOf, Tryz.underlying35]
  exact ⟨_, _, rfl, by decide, by decide, rfl, rfl, rfl, rfl⟩
 obtain ⟨f1, f2, hl, n1, n2, t1, t2, o1, o2⟩ := hfo
 rw [hl]
 simp only [Op.eqFields, n1, n2, t1, t2, o1, o2, Sem.run_bind, Result.andThen_ok, p1, p2, q1, q2, e3, e4, ne_eq, not_false_eq_true, if_true]
 by_cases hh : h = h'
 ·
  by_cases hr : r = r'
  ·
   rw [decide_eq_true (And.intro hh hr)]
   have d1 := decide_eq_true hh; have d2 := decide_eq_true hr
   simp [d1, d2, e4, p1, p2, q1, q2]
  ·
   rw [decide_eq_false (show ¬ (h = h' ∧ r = r') from fun k => hr k.2)]
   have d1 := decide_eq_true hh; have d2 := decide_eq_false hr
   simp [d1, d2, e4, p1, p2, q1, q2]
 ·
  rw [decide_eq_false (show ¬ (h = h' ∧ r = r') from fun k => hh k.1)]
  have d1 := decide_eq_false hh
  simp [d1]
end Go.Proofs.YthfhhkanpnemcaaGreatDoor
