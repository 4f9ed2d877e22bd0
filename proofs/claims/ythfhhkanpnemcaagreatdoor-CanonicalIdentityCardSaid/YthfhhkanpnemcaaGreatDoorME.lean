/- The law of identities, walked. -/
import Derived.Test.YthfhhkanpnemcaaGreatDoorMD
namespace Go.Proofs.YthfhhkanpnemcaaGreatDoor
open Go.SL Go.RowKit IntWalk
set_option linter.unusedVariables false
set_option maxRecDepth 100000
set_option linter.unusedSimpArgs false
set_option maxHeartbeats 4000000

theorem crd_mem {m : List Res} {W : Nat → Prop} {w0 w : World} {c : Con} {y : CAt} (i j : Nat) (hi : nth m i = some (.row (.slice y.ra c.refs.length y.rc) 26 32 c.refs.length (idsV c.refs))) (hj : nth m j = some (.row (.slice y.ga c.groups.length y.gc) 9 1 c.groups.length (c.groups.map str))) (hc : cat c y) (hM : Mem W w0 m w) : CRd w c y := by
 obtain ⟨h1, h2, h3, h4⟩ := hc
 refine ⟨?_, ?_, h3, h4⟩
 ·
  rw [h1]; exact hM.rc hj
 ·
  rw [h2]; exact hM.rc hi
abbrev cO (c : Con) (p : CAt) : Obj := .cells (flat (cseg c p)) 28 (0, 0)
abbrev kO (c : Con) (p : CAt) : Obj := .cells (flat (cseg c p)) 37 (0, 0)
def validB (a b : Con) : Bool := decide (checkM a = 0) && decide (checkM b = 0)
theorem u8_succ (u : UInt8) : IntKind.u8.wrap ((u.toNat : Int) + 1) = ((u + 1).toNat : Int) := by
 rw [IntKind.wrap_u8, UInt8.toNat_add]
 rfl

theorem idsV_u8 {k : Nat} : ∀ (xs : List (B k)), ∀ v ∈ idsV xs, ∃ u : UInt8, v = .int .u8 u.toNat
 | [], v, h => by cases h
 | b :: r, v, h => by
  simp only [idsV, List.mem_append] at h
  rcases h with h | h
  ·
   rw [flat_seg] at h
   simp only [List.mem_map, Extern.Stop.cell] at h
   obtain ⟨u, _, rfl⟩ := h
   exact ⟨u, rfl⟩
  ·
   exact idsV_u8 r v h
theorem fresh_u8 {len c : Nat} {xs : List (B 32)} {cs : Array Value} (h : FreshRow 32 len (idsV xs) c cs) : ∀ j, j < len * 32 → ∃ u : UInt8, cs[j]? = some (.int .u8 u.toNat) := by
 intro j hj
 have hl := h.len
 have hlt : j < (idsV xs).length := by omega
 obtain ⟨u, hu⟩ := idsV_u8 xs _ (List.getElem_mem hlt)
 refine ⟨u, ?_⟩
 have h1 : (idsV xs)[j]? = some (.int .u8 u.toNat) := by rw [List.getElem?_eq_getElem hlt, hu]
 rw [← h.take, List.getElem?_take, if_pos hj] at h1
 simpa using h1
theorem set_u8 {N i : Nat} {v : UInt8} {cs : Array Value} (h : ∀ j, j < N → ∃ u : UInt8, cs[j]? = some (.int .u8 u.toNat)) : ∀ j, j < N → ∃ u : UInt8, (cs.setIfInBounds i (.int .u8 v.toNat))[j]? = some (.int .u8 u.toNat) := by
 intro j hj
 obtain ⟨u, hu⟩ := h j hj
 have hlt : j < cs.size := (Array.getElem?_eq_some_iff.1 hu).1
 by_cases e : i = j
 ·
  subst e
  exact ⟨v, by simp [hlt]⟩
 ·
  exact ⟨u, by rw [Array.getElem?_setIfInBounds_ne e]; exact hu⟩

theorem identity_walk (hinj : ∀ a b : Con, checkM a = 0 → checkM b = 0 → formP a = formP b → a = b) (hform : ∀ a : Con, checkM a = 0 → formM a = formP a) (a b : Con) (p q : CAt) (hia : CIn a) (hib : CIn b) (w : World) (hG : Glob w) (hA : CRd w a p) (hB : CRd w b q) :
  Calls Tryz.prog 3 [.agg (flat (cseg a p)), .agg (flat (cseg b q))].toArray w fun e w' => e = .returned (.bool true) ∧ Keeps none1 w w' := by
 have hno : ∀ k, ¬ none1 k := fun k h => h
 refine aJ (n := 153) (W := SL.none1) (m := []) Tryz.func3 O Tryz.ntmps3 O (aO _ _ _) ?_
 simp only [SL.enum, Nat.reduceAdd]
 refine ah fun K1 hK1 => aj (am O (bh _ O O O O O) ?_)
 intro b2 _
 try simp only [setN, putD, selM, nth, cw, cx]
 refine am O (bh _ O O O O O) ?_
 intro b3 _
 try simp only [setN, putD, selM, nth, cw, cx]
 refine aa O O O (ak O O) (ai ?_)
 refine ae (hK1 _ _ ?_)
 refine ah fun K2 hK2 => ah fun K3 hK3 => aj (am O (aN O O (by kernel_rfl) O O (fun w hM hK => known_c w (hG.keep hK))) ?_)
 intro _ _
 try simp only [setN, putD, selM, nth, cw, cx]
 refine aa O O O (bM O O) (aa O O O (af O O) ?_)
 refine SL.Ok.setF (d := 19) O ((by decide)) ?_
 refine aq O O O O O O O (by first | exact ay 0 (k := 75) O O O (by kernel_rfl) O (by kernel_rfl) | exact ay 1 (k := 75) O O O (by kernel_rfl) O (by kernel_rfl)) ?_
 refine SL.Ok.effG O O O O O (aN O O (by kernel_rfl) O O (fun w hM hK => fits_c a p hia w (hA.keep hK))) ?_
 intro _ _
 simp only [setN, putD, selM, nth, cw, cx]
 refine aq O O O O O O O (bM O O) (aa O O O (aE O O O) ?_)
 refine aa O O O (af O O) (aR (d := 24) O (fun hg24 => ?_) (fun hg24 => ?_))
 ·
  have hfa : fitB a = false := by simpa using hg24
  refine ag O O O O O O O (ag O O O O O O O ?_)
  refine ag O O O O O O O (aa O O O (aF O O O) ?_)
  refine ai (ae ?_)
  refine hK3 _ _ (bk O ?_)
  refine ah fun K4 hK4 => aj (am O (aN O O (by kernel_rfl) O O (fun w hM hK => known_c w (hG.keep hK))) ?_)
  intro _ _
  try simp only [setN, putD, selM, nth, cw, cx]
  refine aa O O O (ak O O) (ai ?_)
  refine ae (hK4 _ _ ?_)
  refine aw (aB av) (ar O (.cons (.tmp O) .nil) O) (fun w' hM' hK' => ?_)
  exact ⟨rfl, hK'⟩
 ·
  have hfa : fitB a = true := by simpa using hg24
  have ha := fit_of hia hfa
  refine aq O O O O O O O (by first | exact ay 0 (k := 75) O O O (by kernel_rfl) O (by kernel_rfl) | exact ay 1 (k := 75) O O O (by kernel_rfl) O (by kernel_rfl)) ?_
  refine SL.Ok.effG O O O O O (aN O O (by kernel_rfl) O O (fun w hM hK => fits_c b q hib w (hB.keep hK))) ?_
  intro _ _
  simp only [setN, putD, selM, nth, cw, cx]
  refine aq O O O O O O O (bM O O) (aa O O O (aE O O O) ?_)
  refine ai (ae ?_)
  refine hK3 _ _ (aH O (fun hc28 => ?_) (fun hc28 => ?_))
  ·
   have hfb : fitB b = false := by simpa using hc28
   refine ah fun K5 hK5 => aj (am O (aN O O (by kernel_rfl) O O (fun w hM hK => known_c w (hG.keep hK))) ?_)
   intro _ _
   try simp only [setN, putD, selM, nth, cw, cx]
   refine aa O O O (ak O O) (ai ?_)
   refine ae (hK5 _ _ ?_)
   refine aw (aB av) (ar O (.cons (.tmp O) .nil) O) (fun w' hM' hK' => ?_)
   exact ⟨rfl, hK'⟩
  ·
   have hfb : fitB b = true := by simpa using hc28
   have hb := fit_of hib hfb
   have agl := ha.gl; have arl := ha.refs; have bgl := hb.gl; have brl := hb.refs
   refine aC (ae ?_)
   refine hK2 _ _ (ah fun K6 hK6 => ?_)
   refine cq (X := Unit) (φ := fun _ => True) (L := fun _ => [(2, .pointer (some ⟨b2, 0, none⟩)), (3, .pointer (some ⟨b3, 0, none⟩)), (5, str (if collB a b then formP a else [])), (6, str (if collB a b then formP b else [])), (7, .bool (collB a b))]) (M := fun _ => [.blk b3 (cO b q), .blk b2 (cO a p)]) ?_ (fun hJa3 => ?_)
   ·
    intro _ _
    try dsimp only
    refine ae (hK6 _ _ ?_)
    refine ah fun K7 hK7 => cq (X := Nat) (φ := fun _ => True) (L := fun X => [(2, .pointer (some ⟨b2, 0, none⟩)), (3, .pointer (some ⟨b3, 0, none⟩)), (5, str (if collB a b then formP a else [])), (6, str (if collB a b then formP b else [])), (7, .bool (collB a b)), (8, .pointer (some ⟨X, 0, none⟩)), (9, .int .i64 (checkM a))]) (M := fun X => [.blk X (idO (idB a)), .blk b3 (cO b q), .blk b2 (cO a p)]) ?_ (fun hJa4 => ?_)
    ·
     intro b8 _
     try dsimp only
     refine ae (hK7 _ _ ?_)
     refine ah fun K8 hK8 => aj (aa O O O (by first | exact ay 0 (k := 75) O O O (by kernel_rfl) O (by kernel_rfl) | exact ay 1 (k := 75) O O O (by kernel_rfl) O (by kernel_rfl) | exact ay 2 (k := 75) O O O (by kernel_rfl) O (by kernel_rfl)) ?_)
     refine am O (aM [] [0, 1, 2] O O (by kernel_rfl) O O O O (fun w hM hK => own2_c b q (by omega) (by omega) w (hB.keep hK))) ?_
     intro y47 hy47
     try simp only [setN, putD, selM, nth, cw, cx]
     refine am O (aN O O (by kernel_rfl) O O (fun w hM hK => cid_c b _ hb w (hG.keep hK) (crd_mem 0 1 O O hy47.1 hM))) ?_
     intro _ _
     try simp only [setN, putD, selM, nth, cw, cx]
     refine aa O O O (af O O) (aa O O O (aW O O O) ?_)
     refine aa O O O (aW O O O) (am O (aX [(B.zero 32).seg] O O O (by kernel_rfl)) ?_)
     intro b10 _
     try simp only [setN, putD, selM, nth, cw, cx]
     refine am O (by first | exact ap (k := 32) 0 _ O O O O O O (by kernel_rfl) O O | exact ap (k := 32) 1 _ O O O O O O (by kernel_rfl) O O | exact ap (k := 32) 2 _ O O O O O O (by kernel_rfl) O O | exact ap (k := 32) 3 _ O O O O O O (by kernel_rfl) O O | exact ap (k := 32) 4 _ O O O O O O (by kernel_rfl) O O | exact ap (k := 32) 5 _ O O O O O O (by kernel_rfl) O O) ?_
     intro _ _
     try simp only [setN, putD, selM, nth, cw, cx]
     refine aa O O O (ak O O) (ai ?_)
     refine ae (hK8 _ _ ?_)
     refine ah fun K9 hK9 => cq (X := Unit) (φ := fun _ => True) (L := fun _ => [(2, .pointer (some ⟨b2, 0, none⟩)), (3, .pointer (some ⟨b3, 0, none⟩)), (5, str (if collB a b then formP a else [])), (6, str (if collB a b then formP b else [])), (7, .bool (collB a b)), (8, .pointer (some ⟨b8, 0, none⟩)), (10, .pointer (some ⟨b10, 0, none⟩)), (12, .bool (validB a b))]) (M := fun _ => [.blk b10 (idO (idB b)), .blk b8 (idO (idB a)), .blk b3 (cO b q), .blk b2 (cO a p)]) ?_ (fun hJa6 => ?_)
     ·
      intro _ _
      try dsimp only
      refine ae (hK9 _ _ ?_)
      refine ah fun K10 hK10 => ah fun K11 hK11 => cq (X := Unit) (φ := fun _ => True) (L := fun _ => [(2, .pointer (some ⟨b2, 0, none⟩)), (3, .pointer (some ⟨b3, 0, none⟩)), (5, str (if collB a b then formP a else [])), (6, str (if collB a b then formP b else [])), (7, .bool (collB a b)), (81, .bool false)]) (M := fun _ => [.blk b3 (cO b q), .blk b2 (cO a p)]) ?_ (fun hJa7 => ?_)
      ·
       intro _ _
       try dsimp only
       refine ae (hK11 _ _ ?_)
       refine cf O (O) (aC ?_)
       refine ae (hK10 _ _ ?_)
       refine ah fun K12 hK12 => ah fun K13 hK13 => cq (X := Unit) (φ := fun _ => True) (L := fun _ => [(2, .pointer (some ⟨b2, 0, none⟩)), (3, .pointer (some ⟨b3, 0, none⟩)), (111, .bool false)]) (M := fun _ => [.blk b3 (cO b q), .blk b2 (cO a p)]) ?_ (fun hJa9 => ?_)
       ·
        intro _ _
        try dsimp only
        refine ae (hK13 _ _ ?_)
        refine cf O (O) (aC ?_)
        refine ae (hK12 _ _ ?_)
        refine ah fun K14 hK14 => aj (aa O O O (by first | exact ay 0 (k := 75) O O O (by kernel_rfl) O (by kernel_rfl) | exact ay 1 (k := 75) O O O (by kernel_rfl) O (by kernel_rfl)) ?_)
        refine am O (aM [] [0, 1] O O (by kernel_rfl) O O O O (fun w hM hK => own2_c a p (by omega) (by omega) w (hA.keep hK))) ?_
        intro yc hyc
        try simp only [setN, putD, selM, nth, cw, cx]
        refine am O (aX [Seg.one (str []) rfl, (B.zero 16).seg, Seg.one (.int .i64 0) rfl, Seg.one (.slice none 0 0) rfl, Seg.one (str []) rfl, Seg.one (.slice none 0 0) rfl, (B.zero 32).seg, Seg.one (str []) rfl, Seg.one (str []) rfl, Seg.one (.int .i64 0) rfl, Seg.one (.int .i64 0) rfl, (B.zero 16).seg, Seg.one (.int .i64 0) rfl, Seg.one (str []) rfl] O O O (by kernel_rfl)) ?_
        intro b13 _
        try simp only [setN, putD, selM, nth, cw, cx]
        refine am O (by first | exact ap (k := 75) 0 _ O O O O O O (by kernel_rfl) O O | exact ap (k := 75) 1 _ O O O O O O (by kernel_rfl) O O | exact ap (k := 75) 2 _ O O O O O O (by kernel_rfl) O O | exact ap (k := 75) 3 _ O O O O O O (by kernel_rfl) O O | exact ap (k := 75) 4 _ O O O O O O (by kernel_rfl) O O) ?_
        intro _ _
        try simp only [setN, putD, selM, nth, cw, cx]
        refine ai (ae ?_)
        refine hK14 _ _ (ah fun K15 hK15 => ?_)
        refine aj (aa O O O (by first | exact ay 0 (k := 75) O O O (by kernel_rfl) O (by kernel_rfl) | exact ay 1 (k := 75) O O O (by kernel_rfl) O (by kernel_rfl) | exact ay 2 (k := 75) O O O (by kernel_rfl) O (by kernel_rfl) | exact ay 3 (k := 75) O O O (by kernel_rfl) O (by kernel_rfl) | exact ay 4 (k := 75) O O O (by kernel_rfl) O (by kernel_rfl)) ?_)
        refine am O (aM [] [0, 1, 2, 3, 4] O O (by kernel_rfl) O O O O (fun w hM hK => cclone2_c a yc hyc.2.1 hyc.2.2 (by omega) (by omega) w (crd_mem 1 2 O O hyc.1 hM))) ?_
        intro ⟨⟨gg, gc, gcs⟩, ⟨rg, rc, rcs⟩⟩ ⟨hgf, hrf⟩
        try simp only [setN, putD, selM, nth, cw, cx]
        dsimp only at hgf hrf
        have hyg : yc.gl = a.groups.length := hyc.1.1
        have hyr : yc.rl = a.refs.length := hyc.1.2.1
        have hgcap := hgf.cap
        have hrcap := hrf.cap
        have hgs : gcs.size = gc := by have := hgf.size; omega
        have hrs : rcs.size = rc * 32 := hrf.size
        have hrb := fresh_u8 hrf
        refine am O (aX [Seg.one (str []) rfl, (B.zero 16).seg, Seg.one (.int .i64 0) rfl, Seg.one (.slice none 0 0) rfl, Seg.one (str []) rfl, Seg.one (.slice none 0 0) rfl, (B.zero 32).seg, Seg.one (str []) rfl, Seg.one (str []) rfl, Seg.one (.int .i64 0) rfl, Seg.one (.int .i64 0) rfl, (B.zero 16).seg, Seg.one (.int .i64 0) rfl, Seg.one (str []) rfl] O O O (by kernel_rfl)) ?_
        intro b14 _
        try simp only [setN, putD, selM, nth, cw, cx]
        refine am O (by first | exact ap (k := 75) 0 _ O O O O O O (by kernel_rfl) O O | exact ap (k := 75) 1 _ O O O O O O (by kernel_rfl) O O | exact ap (k := 75) 2 _ O O O O O O (by kernel_rfl) O O | exact ap (k := 75) 3 _ O O O O O O (by kernel_rfl) O O | exact ap (k := 75) 4 _ O O O O O O (by kernel_rfl) O O | exact ap (k := 75) 5 _ O O O O O O (by kernel_rfl) O O | exact ap (k := 75) 6 _ O O O O O O (by kernel_rfl) O O | exact ap (k := 75) 7 _ O O O O O O (by kernel_rfl) O O) ?_
        intro _ _
        try simp only [setN, putD, selM, nth, cw, cx]
        refine ai (ae ?_)
        refine hK15 _ _ (ah fun K16 hK16 => ?_)
        refine ah fun K17 hK17 => aj (aa O O O (ak O O) ?_)
        refine ai (ae ?_)
        refine hK17 _ _ (aK ?_)
        refine bu (X := (Nat × Array Value)) (φ := fun X => X.1 ≤ yc.gl ∧ X.2.size = gc) (L := fun X => [(2, .pointer (some ⟨b2, 0, none⟩)), (13, .pointer (some ⟨b13, 0, none⟩)), (14, .pointer (some ⟨b14, 0, none⟩)), (15, .int .i64 X.1)]) (M := fun X => [.blk gg (.cells X.2 9 (0, 0)), .blk rg (.cells rcs 26 (0, 0)), .blk b14 (kO a ⟨some ⟨gg, 0, none⟩, yc.gl, gc, some ⟨rg, 0, none⟩, yc.rl, rc⟩), .blk b13 (kO a yc), .row (.slice yc.ra a.refs.length yc.rc) 26 32 a.refs.length (idsV a.refs), .row (.slice yc.ga a.groups.length yc.gc) 9 1 a.groups.length (a.groups.map str), .blk b2 (cO a p)]) (μ := fun X => yc.gl - X.1) ?_ ?_
        ·
         exact fun _ _ st => ⟨(0, gcs), ⟨Nat.zero_le _, hgs⟩, st.to [2, 1, 0, 3, 4, 5, 7] ⟨rfl, rfl, rfl, rfl, trivial⟩ O rfl⟩
        ·
         intro ⟨i, cs⟩ ⟨hil, hcs⟩
         try dsimp only
         dsimp only at hil hcs
         refine ah fun K18 hK18 => ah fun K19 hK19 => aj (aa O O O (af O O) ?_)
         refine aa O O O (au (k := 18) O O (by kernel_rfl) O) ?_
         refine aa O O O (by first | exact al 0 O O O O (by kernel_rfl) | exact al 1 O O O O (by kernel_rfl) | exact al 2 O O O O (by kernel_rfl) | exact al 3 O O O O (by kernel_rfl) | exact al 4 O O O O (by kernel_rfl) | exact al 5 O O O O (by kernel_rfl) | exact al 6 O O O O (by kernel_rfl)) ?_
         refine aa O O O (bw O O O Tryz.underlying23) (aa O O O (aT O O O) ?_)
         refine ai (ae ?_)
         refine hK19 _ _ (aH O (fun hc120 => ?_) (fun hc120 => ?_))
         ·
          have hlt : i < yc.gl := by simp at hc120; omega
          refine aC (ae ?_)
          refine hK18 _ _ (ah fun K20 hK20 => ?_)
          refine aK (aj ?_)
          refine aa O O O (au (k := 18) O O (by kernel_rfl) O) ?_
          refine aa O O O (by first | exact al 0 O O O O (by kernel_rfl) | exact al 1 O O O O (by kernel_rfl) | exact al 2 O O O O (by kernel_rfl) | exact al 3 O O O O (by kernel_rfl) | exact al 4 O O O O (by kernel_rfl) | exact al 5 O O O O (by kernel_rfl) | exact al 6 O O O O (by kernel_rfl)) ?_
          refine aa O O O (af O O) (aa O O O (bx (sz := 1) (k := yc.gl) (off' := i) O O O Tryz.underlying23 (by kernel_rfl) (by omega) (by omega) (by omega)) ?_)
          refine am O (SL.Eff.storeC 0 O O O O O O (by kernel_rfl) (by omega)) ?_
          intro _ _
          try simp only [setN, putD, selM, nth, cw, cx]
          refine ai (aQ ?_)
          refine ae (hK20 _ _ ?_)
          refine aj (aa O O O (af O O) ?_)
          refine aa O O O (aL O O O O (by omega) (by omega)) ?_
          refine aa O O O (ak O O) (ai ?_)
          refine ae ?_
          exact bd (i + 1, cs.setIfInBounds i (str [99, 104, 97, 110, 103, 101, 100])) [0, 1, 2, 3, 4, 5, 6] ⟨by omega, by simpa using hcs⟩ (show yc.gl - (i + 1) < yc.gl - i by omega) ⟨rfl, rfl, rfl, rfl, trivial⟩ O rfl
         ·
          refine aU (aI ?_)
          refine aI (aV ?_)
          refine ae (hK16 _ _ ?_)
          refine ah fun K21 hK21 => ah fun K22 hK22 => aj (aa O O O (ak O O) ?_)
          refine ai (ae ?_)
          refine hK22 _ _ (aK ?_)
          refine bu (X := (Nat × Array Value)) (φ := fun X => X.1 ≤ yc.rl ∧ X.2.size = rc * 32 ∧ (∀ j, j < yc.rl * 32 → ∃ u : UInt8, X.2[j]? = some (.int .u8 u.toNat))) (L := fun X => [(2, .pointer (some ⟨b2, 0, none⟩)), (13, .pointer (some ⟨b13, 0, none⟩)), (14, .pointer (some ⟨b14, 0, none⟩)), (16, .int .i64 X.1)]) (M := fun X => [.blk rg (.cells X.2 26 (0, 0)), .blk b14 (kO a ⟨some ⟨gg, 0, none⟩, yc.gl, gc, some ⟨rg, 0, none⟩, yc.rl, rc⟩), .blk b13 (kO a yc), .row (.slice yc.ra a.refs.length yc.rc) 26 32 a.refs.length (idsV a.refs), .row (.slice yc.ga a.groups.length yc.gc) 9 1 a.groups.length (a.groups.map str), .blk b2 (cO a p)]) (μ := fun X => yc.rl - X.1) ?_ ?_
          ·
           exact fun _ _ st => ⟨(0, rcs), ⟨Nat.zero_le _, hrs, hrb⟩, st.to [1, 2, 3, 4, 5, 6] ⟨rfl, rfl, rfl, rfl, trivial⟩ O rfl⟩
          ·
           intro ⟨k, ds⟩ ⟨hkl, hds, hdb⟩
           try dsimp only
           dsimp only at hkl hds hdb
           refine ah fun K23 hK23 => ah fun K24 hK24 => aj (aa O O O (af O O) ?_)
           refine aa O O O (au (k := 20) O O (by kernel_rfl) O) ?_
           refine aa O O O (by first | exact al 0 O O O O (by kernel_rfl) | exact al 1 O O O O (by kernel_rfl) | exact al 2 O O O O (by kernel_rfl) | exact al 3 O O O O (by kernel_rfl) | exact al 4 O O O O (by kernel_rfl) | exact al 5 O O O O (by kernel_rfl)) ?_
           refine aa O O O (bw O O O Tryz.underlying24) (aa O O O (aT O O O) ?_)
           refine ai (ae ?_)
           refine hK24 _ _ (aH O (fun hc131 => ?_) (fun hc131 => ?_))
           ·
            have hlt : k < yc.rl := by simp at hc131; omega
            obtain ⟨u, hu⟩ := hdb (k * 32) (by omega)
            refine aC (ae ?_)
            refine hK23 _ _ (ah fun K25 hK25 => ?_)
            refine aK (bX 9 mixed (by kernel_rfl) O O (fun wd20 => ?_))
            refine aD O O O (au (k := 20) O O (by kernel_rfl) O) ?_
            refine aD O O O (by first | exact al 0 O O O O (by kernel_rfl) | exact al 1 O O O O (by kernel_rfl) | exact al 2 O O O O (by kernel_rfl) | exact al 3 O O O O (by kernel_rfl) | exact al 4 O O O O (by kernel_rfl) | exact al 5 O O O O (by kernel_rfl)) ?_
            refine aD O O O (af O O) (aD O O O (bx (sz := 32) (k := yc.rl) (off' := k * 32) O O O Tryz.underlying24 (by kernel_rfl) (by omega) (by omega) (by omega)) ?_)
            refine aD O O O (bR (sz := 1) (off' := k * 32) O O O Tryz.underlying26 (by kernel_rfl) (by decide) (by decide) O) ?_
            refine aD O O O (SL.Pure.loadRaw 0 O O O hu (by kernel_rfl)) ?_
            refine aD O O O (SL.Pure.addW (r := ((u + 1).toNat : Int)) O O O (u8_succ u)) (aD O O O (bx (sz := 32) (k := yc.rl) (off' := k * 32) O O O Tryz.underlying24 (by kernel_rfl) (by omega) (by omega) (by omega)) ?_)
            refine aD O O O (bR (sz := 1) (off' := k * 32) O O O Tryz.underlying26 (by kernel_rfl) (by decide) (by decide) O) ?_
            refine bV (am O (SL.Eff.storeC 0 O O O O O O (by kernel_rfl) (by omega)) ?_)
            intro _ _
            try simp only [setN, putD, selM, nth, cw, cx]
            refine ai (aQ ?_)
            refine ae (hK25 _ _ ?_)
            refine aj (aa O O O (af O O) ?_)
            refine aa O O O (aL O O O O (by omega) (by omega)) ?_
            refine aa O O O (ak O O) (ai ?_)
            refine ae ?_
            exact bd (k + 1, ds.setIfInBounds (k * 32) (.int .u8 (u + 1).toNat)) [0, 1, 2, 3, 4, 5] ⟨by omega, by simpa using hds, set_u8 hdb⟩ (show yc.rl - (k + 1) < yc.rl - k by omega) ⟨rfl, rfl, rfl, rfl, trivial⟩ O rfl
           ·
            refine aU (aI ?_)
            refine aI (aV ?_)
            refine ae (hK21 _ _ ?_)
            refine ah fun K26 hK26 => ck [0, 1, 2, 3, 4, 5] mixed O O ?_
            simp only [List.replicate, List.length_cons, List.length_nil, Nat.reduceAdd, SL.selM, SL.nth]
            refine aG 0 O O O O (by kernel_rfl) (by kernel_rfl) (by kernel_rfl) O (fun _ _ _ h => h) [0, 1, 2, 3, 4, 5] O O (by first | exact ay 0 (k := 75) O O O (by kernel_rfl) O (by kernel_rfl) | exact ay 1 (k := 75) O O O (by kernel_rfl) O (by kernel_rfl) | exact ay 2 (k := 75) O O O (by kernel_rfl) O (by kernel_rfl) | exact ay 3 (k := 75) O O O (by kernel_rfl) O (by kernel_rfl) | exact ay 4 (k := 75) O O O (by kernel_rfl) O (by kernel_rfl) | exact ay 5 (k := 75) O O O (by kernel_rfl) O (by kernel_rfl)) ?_
            refine aG 2 O O O O (by kernel_rfl) (by kernel_rfl) (by kernel_rfl) O (fun _ _ _ h => h) [0, 1, 2, 3, 4, 5] O O (by first | exact ay 0 (k := 75) O O O (by kernel_rfl) O (by kernel_rfl) | exact ay 1 (k := 75) O O O (by kernel_rfl) O (by kernel_rfl) | exact ay 2 (k := 75) O O O (by kernel_rfl) O (by kernel_rfl) | exact ay 3 (k := 75) O O O (by kernel_rfl) O (by kernel_rfl) | exact ay 4 (k := 75) O O O (by kernel_rfl) O (by kernel_rfl) | exact ay 5 (k := 75) O O O (by kernel_rfl) O (by kernel_rfl)) ?_
            refine aY 1 O O (by kernel_rfl) O [0, 1, 2, 3, 4, 5] (fun _ => rfl) O (bJ O (aN O O (by kernel_rfl) O O (fun w hM hK => back_c a yc w))) ?_
            intro _ _
            try simp only [setN, putD, selM, nth, cw, cx]
            refine aY 3 O O (by kernel_rfl) O [0, 1, 2, 3, 4, 5] (fun _ => rfl) O (bJ O (aN O O (by kernel_rfl) O O (fun w hM hK => same_c a a yc p w (crd_mem 3 4 O O hyc.1 hM) (hA.keep hK)))) ?_
            intro _ _
            try simp only [setN, putD, selM, nth, cw, cx]
            refine aG 4 O O O O (by kernel_rfl) (by kernel_rfl) (by kernel_rfl) O (fun _ _ _ h => h) [0, 1, 2, 3, 4, 5] O O (af O O) ?_
            refine SL.OkH.setT (d := 147) O ((by simp)) ?_
            refine cd 5 O O O O O O O O (by kernel_rfl) (by kernel_rfl) (by kernel_rfl) O (fun _ _ _ h => h) [0, 1, 2, 3, 4, 5] O O (by first | exact ay 0 (k := 75) O O O (by kernel_rfl) O (by kernel_rfl) | exact ay 1 (k := 75) O O O (by kernel_rfl) O (by kernel_rfl) | exact ay 2 (k := 75) O O O (by kernel_rfl) O (by kernel_rfl) | exact ay 3 (k := 75) O O O (by kernel_rfl) O (by kernel_rfl) | exact ay 4 (k := 75) O O O (by kernel_rfl) O (by kernel_rfl) | exact ay 5 (k := 75) O O O (by kernel_rfl) O (by kernel_rfl)) ?_
            refine cd 7 O O O O O O O O (by kernel_rfl) (by kernel_rfl) (by kernel_rfl) O (fun _ _ _ h => h) [0, 1, 2, 3, 4, 5] O O (by first | exact ay 0 (k := 75) O O O (by kernel_rfl) O (by kernel_rfl) | exact ay 1 (k := 75) O O O (by kernel_rfl) O (by kernel_rfl) | exact ay 2 (k := 75) O O O (by kernel_rfl) O (by kernel_rfl) | exact ay 3 (k := 75) O O O (by kernel_rfl) O (by kernel_rfl) | exact ay 4 (k := 75) O O O (by kernel_rfl) O (by kernel_rfl) | exact ay 5 (k := 75) O O O (by kernel_rfl) O (by kernel_rfl)) ?_
            refine SL.OkH.effG 6 O O O O O O (by kernel_rfl) O [2, 3, 4, 5, 6, 7] (fun _ => rfl) O (bJ O (aM [] [0, 1, 2, 3, 4, 5] O O (by kernel_rfl) O O O O (fun w hM hK => cclone_c a yc (by omega) (by omega) w (crd_mem 3 4 O O hyc.1 hM)))) ?_
            intro y149 hy149
            try simp only [setN, putD, selM, nth, cw, cx]
            refine SL.OkH.effG 8 O O O O O O (by kernel_rfl) O [2, 3, 4, 5, 6, 7] (fun _ => rfl) O (bJ O (aN O O (by kernel_rfl) O O (fun w hM hK => cequal_c a a y149 yc w (crd_mem 0 1 O O hy149 hM) (crd_mem 5 6 O O hyc.1 hM)))) ?_
            intro _ _
            try simp only [setN, putD, selM, nth, cw, cx]
            refine aG 9 O O O O (by kernel_rfl) (by kernel_rfl) (by kernel_rfl) O (fun _ _ _ h => h) [2, 3, 4, 5, 6, 7] O O (aF O O O) ?_
            refine aG 10 O O O O (by kernel_rfl) (by kernel_rfl) (by kernel_rfl) O (fun _ _ _ h => h) [2, 3, 4, 5, 6, 7] O O (ak O O) ?_
            refine bN (by kernel_rfl) ?_
            refine ae (hK26 _ _ ?_)
            refine aw av (ar O (.cons (.tmp O) .nil) O) (fun w' hM' hK' => ?_)
            exact ⟨by simp [retv], hK'⟩
       refine aj (aa O O O (af O O) ?_)
       refine aa O O O (bM O O) (aa O O O (af O O) ?_)
       refine aR (d := 84) O (fun hg84 => ?_) (fun hg84 => ?_)
       ·
        have hcf : collB a b = false := by simpa using hg84
        refine aq O O O O O O O (af O O) (aq O O O O O O O (SL.Pure.neS O O O) ?_)
        refine aq O O O O O O O (af O O) (SL.Ok.setF (d := 87) O ((by rw [hcf]; simp)) ?_)
        refine aq O O O O O O O (af O O) (aq O O O O O O O (SL.Pure.neS O O O) ?_)
        refine aq O O O O O O O (aE O O O) (aa O O O (aF O O O) ?_)
        refine aa O O O (af O O) (SL.Ok.setF (d := 92) O ((by first | rfl | (rw [hcf]; simp; done))) ?_)
        refine aq O O O O O O O (af O O) (aq O O O O O O O (af O O) ?_)
        refine SL.Ok.setF (d := 94) O (hcf) (ag O O O O O O O ?_)
        refine ag O O O O O O O (ag O O O O O O O ?_)
        refine ag O O O O O O O (bO O O O O O O ?_)
        refine bO O O O O O O (bO O O O O O O ?_)
        refine bO O O O O O O (ag O O O O O O O ?_)
        refine ag O O O O O O O (bO O O O O O O ?_)
        refine bO O O O O O O (bO O O O O O O ?_)
        refine bO O O O O O O (ag O O O O O O O ?_)
        refine aq O O O O O O O (aE O O O) (aa O O O (aE O O O) ?_)
        refine ai ?_
        exact bI (hJa9 () trivial) [0, 1] ⟨rfl, rfl, rfl, trivial⟩ O rfl
       ·
        have hct : collB a b = true := by simpa using hg84
        have hct' := hct
        simp only [collB, Bool.and_eq_true, decide_eq_true_eq, Bool.not_eq_true', decide_eq_false_iff_not] at hct'
        obtain ⟨⟨⟨hka, hkb⟩, _⟩, hab⟩ := hct'
        refine ag O O O O O O O (ag O O O O O O O ?_)
        refine ag O O O O O O O (bO O O O O O O ?_)
        refine bO O O O O O O (ag O O O O O O O ?_)
        refine aa O O O (aE O O O) (aa O O O (af O O) ?_)
        refine aq O O O O O O O (af O O) (aq O O O O O O O (af O O) ?_)
        refine SL.Ok.setT (d := 94) O (hct) (aq O O O O O O O (af O O) ?_)
        refine aq O O O O O O O (af O O) (aq O O O O O O O (SL.Pure.eqS O O O) ?_)
        refine aq O O O O O O O (af O O) (SL.Ok.setF (d := 98) O ((by rw [hct]; simp; exact fun h => hab (hinj a b hka hkb h))) ?_)
        refine aq O O O O O O O (af O O) (aq O O O O O O O (by first | exact ay 0 (k := 75) O O O (by kernel_rfl) O (by kernel_rfl) | exact ay 1 (k := 75) O O O (by kernel_rfl) O (by kernel_rfl)) ?_)
        refine SL.Ok.effG O O O O O (aN O O (by kernel_rfl) O O (fun w hM hK => refForm_c a p (ha.p hka).toCB w (hA.keep hK))) ?_
        intro _ _
        simp only [setN, putD, selM, nth, cw, cx]
        refine aq O O O O O O O (SL.Pure.neS O O O) (aq O O O O O O O (aE O O O) ?_)
        refine aq O O O O O O O (af O O) (SL.Ok.setF (d := 104) O ((by rw [hct, hform a hka]; simp)) ?_)
        refine aq O O O O O O O (af O O) (aq O O O O O O O (by first | exact ay 0 (k := 75) O O O (by kernel_rfl) O (by kernel_rfl) | exact ay 1 (k := 75) O O O (by kernel_rfl) O (by kernel_rfl)) ?_)
        refine SL.Ok.effG O O O O O (aN O O (by kernel_rfl) O O (fun w hM hK => refForm_c b q (hb.p hkb).toCB w (hB.keep hK))) ?_
        intro _ _
        simp only [setN, putD, selM, nth, cw, cx]
        refine aq O O O O O O O (SL.Pure.neS O O O) (aq O O O O O O O (aE O O O) ?_)
        refine aq O O O O O O O (aF O O O) (aa O O O (aE O O O) ?_)
        refine ai ?_
        exact bI (hJa9 () trivial) [0, 1] ⟨rfl, rfl, by simp [SL.look]; rw [hct, hform b hkb]; simp, trivial⟩ O rfl
      refine ck [0, 1, 2, 3] mixed O O ?_
      simp only [List.replicate, List.length_cons, List.length_nil, Nat.reduceAdd, SL.selM, SL.nth]
      refine aG 0 O O O O (by kernel_rfl) (by kernel_rfl) (by kernel_rfl) O (fun _ _ _ h => h) [0, 1, 2, 3] O O (by first | exact ay 0 (k := 75) O O O (by kernel_rfl) O (by kernel_rfl) | exact ay 1 (k := 75) O O O (by kernel_rfl) O (by kernel_rfl) | exact ay 2 (k := 75) O O O (by kernel_rfl) O (by kernel_rfl) | exact ay 3 (k := 75) O O O (by kernel_rfl) O (by kernel_rfl)) ?_
      refine aG 2 O O O O (by kernel_rfl) (by kernel_rfl) (by kernel_rfl) O (fun _ _ _ h => h) [0, 1, 2, 3] O O (by first | exact ay 0 (k := 75) O O O (by kernel_rfl) O (by kernel_rfl) | exact ay 1 (k := 75) O O O (by kernel_rfl) O (by kernel_rfl) | exact ay 2 (k := 75) O O O (by kernel_rfl) O (by kernel_rfl) | exact ay 3 (k := 75) O O O (by kernel_rfl) O (by kernel_rfl)) ?_
      refine aG 5 O O O O (by kernel_rfl) (by kernel_rfl) (by kernel_rfl) O (fun _ _ _ h => h) [0, 1, 2, 3] O O (by first | exact ay 0 (k := 75) O O O (by kernel_rfl) O (by kernel_rfl) | exact ay 1 (k := 75) O O O (by kernel_rfl) O (by kernel_rfl) | exact ay 2 (k := 75) O O O (by kernel_rfl) O (by kernel_rfl) | exact ay 3 (k := 75) O O O (by kernel_rfl) O (by kernel_rfl)) ?_
      refine aG 6 O O O O (by kernel_rfl) (by kernel_rfl) (by kernel_rfl) O (fun _ _ _ h => h) [0, 1, 2, 3] O O (by first | exact ay 0 (k := 75) O O O (by kernel_rfl) O (by kernel_rfl) | exact ay 1 (k := 75) O O O (by kernel_rfl) O (by kernel_rfl) | exact ay 2 (k := 75) O O O (by kernel_rfl) O (by kernel_rfl) | exact ay 3 (k := 75) O O O (by kernel_rfl) O (by kernel_rfl)) ?_
      refine aY 1 O O (by kernel_rfl) O [2, 3, 4, 5] (fun _ => rfl) O (bJ O (aM [] [0, 1, 2, 3] O O (by kernel_rfl) O O O O (fun w hM hK => own2_c a p (by omega) (by omega) w (hA.keep hK)))) ?_
      intro y58 hy58
      try simp only [setN, putD, selM, nth, cw, cx]
      refine aY 3 O O (by kernel_rfl) O [4, 5, 6, 7] (fun _ => rfl) O (bJ O (aM [] [0, 1, 2, 3, 4, 5] O O (by kernel_rfl) O O O O (fun w hM hK => own2_c b q (by omega) (by omega) w (hB.keep hK)))) ?_
      intro y60 hy60
      try simp only [setN, putD, selM, nth, cw, cx]
      refine aY 4 O O (by kernel_rfl) O [4, 5, 6, 7] (fun _ => rfl) O (bJ O (aN O O (by kernel_rfl) O O (fun w hM hK => cequal_c a b _ _ w (crd_mem 2 3 O O hy58.1 hM) (crd_mem 0 1 O O hy60.1 hM)))) ?_
      intro _ _
      try simp only [setN, putD, selM, nth, cw, cx]
      refine aY 7 O O (by kernel_rfl) O [4, 5, 6, 7] (fun _ => rfl) O (bJ O (aN O O (by kernel_rfl) O O (fun w hM hK => same_c a b p q w (hA.keep hK) (hB.keep hK)))) ?_
      intro _ _
      try simp only [setN, putD, selM, nth, cw, cx]
      refine aG 8 O O O O (by kernel_rfl) (by kernel_rfl) (by kernel_rfl) O (fun _ _ _ h => h) [4, 5, 6, 7] O O (SL.Pure.neBool O O O Tryz.underlying4) ?_
      refine aG 9 O O O O (by kernel_rfl) (by kernel_rfl) (by kernel_rfl) O (fun _ _ _ h => h) [4, 5, 6, 7] O O (af O O) ?_
      refine SL.OkH.setF (d := 66) O ((by simp)) ?_
      refine cd 10 O O O O O O O O (by kernel_rfl) (by kernel_rfl) (by kernel_rfl) O (fun _ _ _ h => h) [4, 5, 6, 7] O O (af O O) ?_
      refine cd 11 O O O O O O O O (by kernel_rfl) (by kernel_rfl) (by kernel_rfl) O (fun _ _ _ h => h) [4, 5, 6, 7] O O (af O O) ?_
      refine cd 12 O O O O O O O O (by kernel_rfl) (by kernel_rfl) (by kernel_rfl) O (fun _ _ _ h => h) [4, 5, 6, 7] O O (af O O) ?_
      refine SL.OkH.split (d := 69) O (fun hg69 => ?_) (fun hg69 => ?_)
      ·
       have hv : validB a b = true := hg69
       refine cd 13 O O O O O O O O (by kernel_rfl) (by kernel_rfl) (by kernel_rfl) O (fun _ _ _ h => h) [4, 5, 6, 7] O O (by first | exact ay 0 (k := 32) O O O (by kernel_rfl) O (by kernel_rfl) | exact ay 1 (k := 32) O O O (by kernel_rfl) O (by kernel_rfl) | exact ay 2 (k := 32) O O O (by kernel_rfl) O (by kernel_rfl) | exact ay 3 (k := 32) O O O (by kernel_rfl) O (by kernel_rfl) | exact ay 4 (k := 32) O O O (by kernel_rfl) O (by kernel_rfl) | exact ay 5 (k := 32) O O O (by kernel_rfl) O (by kernel_rfl) | exact ay 6 (k := 32) O O O (by kernel_rfl) O (by kernel_rfl) | exact ay 7 (k := 32) O O O (by kernel_rfl) O (by kernel_rfl)) ?_
       refine cd 14 O O O O O O O O (by kernel_rfl) (by kernel_rfl) (by kernel_rfl) O (fun _ _ _ h => h) [4, 5, 6, 7] O O (by first | exact ay 0 (k := 32) O O O (by kernel_rfl) O (by kernel_rfl) | exact ay 1 (k := 32) O O O (by kernel_rfl) O (by kernel_rfl) | exact ay 2 (k := 32) O O O (by kernel_rfl) O (by kernel_rfl) | exact ay 3 (k := 32) O O O (by kernel_rfl) O (by kernel_rfl) | exact ay 4 (k := 32) O O O (by kernel_rfl) O (by kernel_rfl) | exact ay 5 (k := 32) O O O (by kernel_rfl) O (by kernel_rfl) | exact ay 6 (k := 32) O O O (by kernel_rfl) O (by kernel_rfl) | exact ay 7 (k := 32) O O O (by kernel_rfl) O (by kernel_rfl)) ?_
       refine cd 15 O O O O O O O O (by kernel_rfl) (by kernel_rfl) (by kernel_rfl) O (fun _ _ _ h => h) [4, 5, 6, 7] O O (SL.Pure.eqB O O O Tryz.underlying26 Tryz.underlying5 (by kernel_rfl) (by kernel_rfl)) ?_
       refine cd 16 O O O O O O O O (by kernel_rfl) (by kernel_rfl) (by kernel_rfl) O (fun _ _ _ h => h) [4, 5, 6, 7] O O (aF O O O) ?_
       refine cd 17 O O O O O O O O (by kernel_rfl) (by kernel_rfl) (by kernel_rfl) O (fun _ _ _ h => h) [4, 5, 6, 7] O O (af O O) ?_
       refine SL.OkH.split (d := 74) O (fun hg74 => ?_) (fun hg74 => ?_)
       ·
        have hi : idB a = idB b := by simpa using hg74
        have hcl : collB a b = !decide (a = b) := by
         unfold validB at hv
         rw [collB, hv, decide_eq_true hi]; rfl
        refine cd 18 O O O O O O O O (by kernel_rfl) (by kernel_rfl) (by kernel_rfl) O (fun _ _ _ h => h) [4, 5, 6, 7] O O (by first | exact ay 0 (k := 75) O O O (by kernel_rfl) O (by kernel_rfl) | exact ay 1 (k := 75) O O O (by kernel_rfl) O (by kernel_rfl) | exact ay 2 (k := 75) O O O (by kernel_rfl) O (by kernel_rfl) | exact ay 3 (k := 75) O O O (by kernel_rfl) O (by kernel_rfl) | exact ay 4 (k := 75) O O O (by kernel_rfl) O (by kernel_rfl) | exact ay 5 (k := 75) O O O (by kernel_rfl) O (by kernel_rfl) | exact ay 6 (k := 75) O O O (by kernel_rfl) O (by kernel_rfl) | exact ay 7 (k := 75) O O O (by kernel_rfl) O (by kernel_rfl)) ?_
        refine cd 19 O O O O O O O O (by kernel_rfl) (by kernel_rfl) (by kernel_rfl) O (fun _ _ _ h => h) [4, 5, 6, 7] O O (by first | exact ay 0 (k := 75) O O O (by kernel_rfl) O (by kernel_rfl) | exact ay 1 (k := 75) O O O (by kernel_rfl) O (by kernel_rfl) | exact ay 2 (k := 75) O O O (by kernel_rfl) O (by kernel_rfl) | exact ay 3 (k := 75) O O O (by kernel_rfl) O (by kernel_rfl) | exact ay 4 (k := 75) O O O (by kernel_rfl) O (by kernel_rfl) | exact ay 5 (k := 75) O O O (by kernel_rfl) O (by kernel_rfl) | exact ay 6 (k := 75) O O O (by kernel_rfl) O (by kernel_rfl) | exact ay 7 (k := 75) O O O (by kernel_rfl) O (by kernel_rfl)) ?_
        refine SL.OkH.effG 20 O O O O O O (by kernel_rfl) O [4, 5, 6, 7] (fun _ => rfl) O (bJ O (aN O O (by kernel_rfl) O O (fun w hM hK => same_c a b p q w (hA.keep hK) (hB.keep hK)))) ?_
        intro _ _
        try simp only [setN, putD, selM, nth, cw, cx]
        refine cd 21 O O O O O O O O (by kernel_rfl) (by kernel_rfl) (by kernel_rfl) O (fun _ _ _ h => h) [4, 5, 6, 7] O O (bM O O) ?_
        refine cd 22 O O O O O O O O (by kernel_rfl) (by kernel_rfl) (by kernel_rfl) O (fun _ _ _ h => h) [4, 5, 6, 7] O O (aF O O O) ?_
        refine cd 23 O O O O O O O O (by kernel_rfl) (by kernel_rfl) (by kernel_rfl) O (fun _ _ _ h => h) [4, 5, 6, 7] O O (SL.Pure.neBool O O O Tryz.underlying4) ?_
        refine aG 24 O O O O (by kernel_rfl) (by kernel_rfl) (by kernel_rfl) O (fun _ _ _ h => h) [4, 5, 6, 7] O O (aE O O O) ?_
        refine bN (by kernel_rfl) ?_
        exact bI (hJa7 () trivial) [6, 7] ⟨rfl, rfl, rfl, rfl, rfl, by rw [hcl]; simp [SL.look], trivial⟩ O rfl
       ·
        have hi : ¬ idB a = idB b := by simpa using hg74
        have hcl : collB a b = false := by rw [collB, decide_eq_false hi, Bool.and_false]; rfl
        refine SL.OkH.takeS 18 O O O O O O O O (by kernel_rfl) (by kernel_rfl) (by kernel_rfl) O (fun _ _ _ h => h) [4, 5, 6, 7] O O ?_
        refine SL.OkH.takeS 19 O O O O O O O O (by kernel_rfl) (by kernel_rfl) (by kernel_rfl) O (fun _ _ _ h => h) [4, 5, 6, 7] O O ?_
        refine SL.OkH.takeS 20 O O O O O O O O (by kernel_rfl) (by kernel_rfl) (by kernel_rfl) O (fun _ _ _ h => h) [4, 5, 6, 7] O O ?_
        refine SL.OkH.takeS 21 O O O O O O O O (by kernel_rfl) (by kernel_rfl) (by kernel_rfl) O (fun _ _ _ h => h) [4, 5, 6, 7] O O ?_
        refine cd 22 O O O O O O O O (by kernel_rfl) (by kernel_rfl) (by kernel_rfl) O (fun _ _ _ h => h) [4, 5, 6, 7] O O (aE O O O) ?_
        refine cd 23 O O O O O O O O (by kernel_rfl) (by kernel_rfl) (by kernel_rfl) O (fun _ _ _ h => h) [4, 5, 6, 7] O O (SL.Pure.neBool O O O Tryz.underlying4) ?_
        refine aG 24 O O O O (by kernel_rfl) (by kernel_rfl) (by kernel_rfl) O (fun _ _ _ h => h) [4, 5, 6, 7] O O (aE O O O) ?_
        refine bN (by kernel_rfl) ?_
        exact bI (hJa7 () trivial) [6, 7] ⟨rfl, rfl, rfl, rfl, rfl, by rw [hcl]; simp [SL.look], trivial⟩ O rfl
      ·
       have hv : validB a b = false := hg69
       have hcl : collB a b = false := by
        unfold validB at hv
        rw [collB, hv]; rfl
       refine SL.OkH.takeS 13 O O O O O O O O (by kernel_rfl) (by kernel_rfl) (by kernel_rfl) O (fun _ _ _ h => h) [4, 5, 6, 7] O O ?_
       refine SL.OkH.takeS 14 O O O O O O O O (by kernel_rfl) (by kernel_rfl) (by kernel_rfl) O (fun _ _ _ h => h) [4, 5, 6, 7] O O ?_
       refine SL.OkH.takeS 15 O O O O O O O O (by kernel_rfl) (by kernel_rfl) (by kernel_rfl) O (fun _ _ _ h => h) [4, 5, 6, 7] O O ?_
       refine cd 16 O O O O O O O O (by kernel_rfl) (by kernel_rfl) (by kernel_rfl) O (fun _ _ _ h => h) [4, 5, 6, 7] O O (aE O O O) ?_
       refine cd 17 O O O O O O O O (by kernel_rfl) (by kernel_rfl) (by kernel_rfl) O (fun _ _ _ h => h) [4, 5, 6, 7] O O (af O O) ?_
       refine SL.OkH.takeS 18 O O O O O O O O (by kernel_rfl) (by kernel_rfl) (by kernel_rfl) O (fun _ _ _ h => h) [4, 5, 6, 7] O O ?_
       refine SL.OkH.takeS 19 O O O O O O O O (by kernel_rfl) (by kernel_rfl) (by kernel_rfl) O (fun _ _ _ h => h) [4, 5, 6, 7] O O ?_
       refine SL.OkH.takeS 20 O O O O O O O O (by kernel_rfl) (by kernel_rfl) (by kernel_rfl) O (fun _ _ _ h => h) [4, 5, 6, 7] O O ?_
       refine SL.OkH.takeS 21 O O O O O O O O (by kernel_rfl) (by kernel_rfl) (by kernel_rfl) O (fun _ _ _ h => h) [4, 5, 6, 7] O O ?_
       refine cd 22 O O O O O O O O (by kernel_rfl) (by kernel_rfl) (by kernel_rfl) O (fun _ _ _ h => h) [4, 5, 6, 7] O O (aE O O O) ?_
       refine cd 23 O O O O O O O O (by kernel_rfl) (by kernel_rfl) (by kernel_rfl) O (fun _ _ _ h => h) [4, 5, 6, 7] O O (SL.Pure.neBool O O O Tryz.underlying4) ?_
       refine aG 24 O O O O (by kernel_rfl) (by kernel_rfl) (by kernel_rfl) O (fun _ _ _ h => h) [4, 5, 6, 7] O O (aE O O O) ?_
       refine bN (by kernel_rfl) ?_
       exact bI (hJa7 () trivial) [6, 7] ⟨rfl, rfl, rfl, rfl, rfl, by rw [hcl]; simp [SL.look], trivial⟩ O rfl
     refine aj (aa O O O (af O O) ?_)
     refine aa O O O (bt O O O) (aa O O O (af O O) ?_)
     refine aR (d := 53) O (fun hg53 => ?_) (fun hg53 => ?_)
     ·
      have hka : checkM a = 0 := by simpa using hg53
      have hvb : validB a b = decide (checkM b = 0) := by rw [validB, decide_eq_true hka, Bool.true_and]
      refine aq O O O O O O O (af O O) (aq O O O O O O O (bt O O O) ?_)
      refine aa O O O (aF O O O) (aa O O O (ak O O) ?_)
      refine ai ?_
      exact bI (hJa6 () trivial) [0, 3, 4, 5] ⟨rfl, rfl, rfl, rfl, rfl, rfl, rfl, by rw [hvb]; rfl, trivial⟩ O rfl
     ·
      have hka : ¬ checkM a = 0 := by simpa using hg53
      have hvb : validB a b = false := by rw [validB, decide_eq_false hka, Bool.false_and]
      refine ag O O O O O O O (ag O O O O O O O ?_)
      refine aa O O O (aE O O O) (aa O O O (ak O O) ?_)
      refine ai ?_
      exact bI (hJa6 () trivial) [0, 3, 4, 5] ⟨rfl, rfl, rfl, rfl, rfl, rfl, rfl, by rw [hvb]; rfl, trivial⟩ O rfl
    refine aj (aa O O O (by first | exact ay 0 (k := 75) O O O (by kernel_rfl) O (by kernel_rfl) | exact ay 1 (k := 75) O O O (by kernel_rfl) O (by kernel_rfl)) ?_)
    refine am O (aM [] [0, 1] O O (by kernel_rfl) O O O O (fun w hM hK => own2_c a p (by omega) (by omega) w (hA.keep hK))) ?_
    intro y41 hy41
    try simp only [setN, putD, selM, nth, cw, cx]
    refine am O (aN O O (by kernel_rfl) O O (fun w hM hK => cid_c a _ ha w (hG.keep hK) (crd_mem 0 1 O O hy41.1 hM))) ?_
    intro _ _
    try simp only [setN, putD, selM, nth, cw, cx]
    refine aa O O O (af O O) (aa O O O (aW O O O) ?_)
    refine aa O O O (aW O O O) (am O (aX [(B.zero 32).seg] O O O (by kernel_rfl)) ?_)
    intro b8 _
    try simp only [setN, putD, selM, nth, cw, cx]
    refine am O (by first | exact ap (k := 32) 0 _ O O O O O O (by kernel_rfl) O O | exact ap (k := 32) 1 _ O O O O O O (by kernel_rfl) O O | exact ap (k := 32) 2 _ O O O O O O (by kernel_rfl) O O | exact ap (k := 32) 3 _ O O O O O O (by kernel_rfl) O O | exact ap (k := 32) 4 _ O O O O O O (by kernel_rfl) O O) ?_
    intro _ _
    try simp only [setN, putD, selM, nth, cw, cx]
    refine aa O O O (ak O O) (ai ?_)
    exact bI (hJa4 b8 trivial) [0, 3, 4] ⟨rfl, rfl, rfl, rfl, rfl, rfl, rfl, trivial⟩ O rfl
   refine ck [0, 1] mixed O O ?_
   simp only [List.replicate, List.length_cons, List.length_nil, Nat.reduceAdd, SL.selM, SL.nth]
   refine aG 0 O O O O (by kernel_rfl) (by kernel_rfl) (by kernel_rfl) O (fun _ _ _ h => h) [0, 1] O O (by first | exact ay 0 (k := 75) O O O (by kernel_rfl) O (by kernel_rfl) | exact ay 1 (k := 75) O O O (by kernel_rfl) O (by kernel_rfl)) ?_
   refine aG 2 O O O O (by kernel_rfl) (by kernel_rfl) (by kernel_rfl) O (fun _ _ _ h => h) [0, 1] O O (by first | exact ay 0 (k := 75) O O O (by kernel_rfl) O (by kernel_rfl) | exact ay 1 (k := 75) O O O (by kernel_rfl) O (by kernel_rfl)) ?_
   refine aY 1 O O (by kernel_rfl) O [2, 3] (fun _ => rfl) O (bJ O (aM [] [0, 1] O O (by kernel_rfl) O O O O (fun w hM hK => own2_c a p (by omega) (by omega) w (hA.keep hK)))) ?_
   intro y32 hy32
   try simp only [setN, putD, selM, nth, cw, cx]
   refine aY 3 O O (by kernel_rfl) O [4, 5] (fun _ => rfl) O (bJ O (aM [] [0, 1, 2, 3] O O (by kernel_rfl) O O O O (fun w hM hK => own2_c b q (by omega) (by omega) w (hB.keep hK)))) ?_
   intro y34 hy34
   try simp only [setN, putD, selM, nth, cw, cx]
   refine aY 4 O O (by kernel_rfl) O [4, 5] (fun _ => rfl) O (bJ O (aN O O (by kernel_rfl) O O (fun w hM hK => collision_c a b _ _ ha hb w (hG.keep hK) (crd_mem 2 3 O O hy32.1 hM) (crd_mem 0 1 O O hy34.1 hM)))) ?_
   intro _ _
   try simp only [setN, putD, selM, nth, cw, cx]
   refine aG 5 O O O O (by kernel_rfl) (by kernel_rfl) (by kernel_rfl) O (fun _ _ _ h => h) [4, 5] O O (af O O) ?_
   refine aG 6 O O O O (by kernel_rfl) (by kernel_rfl) (by kernel_rfl) O (fun _ _ _ h => h) [4, 5] O O (aW O O O) ?_
   refine aG 7 O O O O (by kernel_rfl) (by kernel_rfl) (by kernel_rfl) O (fun _ _ _ h => h) [4, 5] O O (aW O O O) ?_
   refine aG 8 O O O O (by kernel_rfl) (by kernel_rfl) (by kernel_rfl) O (fun _ _ _ h => h) [4, 5] O O (aW O O O) ?_
   refine aG 9 O O O O (by kernel_rfl) (by kernel_rfl) (by kernel_rfl) O (fun _ _ _ h => h) [4, 5] O O (ak O O) ?_
   refine aG 10 O O O O (by kernel_rfl) (by kernel_rfl) (by kernel_rfl) O (fun _ _ _ h => h) [4, 5] O O (ak O O) ?_
   refine aG 11 O O O O (by kernel_rfl) (by kernel_rfl) (by kernel_rfl) O (fun _ _ _ h => h) [4, 5] O O (ak O O) ?_
   refine bN (by kernel_rfl) ?_
   exact bI (hJa3 () trivial) [4, 5] ⟨rfl, rfl, rfl, rfl, rfl, trivial⟩ O rfl
end Go.Proofs.YthfhhkanpnemcaaGreatDoor
