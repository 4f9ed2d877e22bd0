/- The program's texts: prefixes, suffixes, what is squeezed; the library's functions in our words. The program: names of groups. The runes of a string, by an iterator. What is printable. The bytes of a rune. Bodies of articles. -/
import Derived.Test.YthfhhkanpnemcaaGreatDoorM3
import Derived.Test.YthfhhkanpnemcaaGreatDoorCk
import Derived.Test.YthfhhkanpnemcaaGreatDoorM4
import Derived.Test.YthfhhkanpnemcaaGreatDoorM2
namespace Go.Proofs.YthfhhkanpnemcaaGreatDoor
open Go.SL Go.RowKit IntWalk Go.Sort
set_option linter.unusedVariables false
set_option maxRecDepth 100000
set_option linter.unusedSimpArgs false
set_option maxHeartbeats 400000

/-- what the package variables hold that the library reads -/
structure Glob (w : World) : Prop where
 size : 6 ≤ w.heap.size
 max : ∃ m, w.cell? ⟨0, 0, none⟩ = some (.int .i64 m)
 pow : Lib.TabIs Tryz.prog w "internal/strconv.uint64pow10" .u64 Lib.pow10Tab

theorem Glob.keepS {S : Nat → Prop} {w w' : World} (h : Glob w) (hk : Keeps S w w') (hS : ∀ k, k < 6 → ¬ S k) : Glob w' := by
 refine ⟨Nat.le_trans h.size hk.size, ?_, ?_⟩
 ·
  obtain ⟨m, hm⟩ := h.max
  exact ⟨m, by rw [World.cell?_of_block (w := w) (hk.block 0 (Nat.lt_of_lt_of_le (by decide) h.size) (hS 0 (by decide)))]; exact hm⟩
 ·
  have hp := h.pow
  unfold Lib.TabIs World.var? at hp ⊢
  have hg : Tryz.prog.globalNamed "internal/strconv.uint64pow10" = some 1 := by kernel_rfl
  rw [hg] at hp ⊢
  simp only [Option.bind_some] at hp ⊢
  rw [hk.block 1 (Nat.lt_of_lt_of_le (by decide) h.size) (hS 1 (by decide))]
  exact hp
theorem Glob.keep {w w' : World} (h : Glob w) (hk : Keeps none1 w w') : Glob w' := h.keepS hk (fun _ _ h => h)

theorem str_mk (l : List UInt8) : (Value.string ⟨l.toArray⟩) = str l := rfl

def pfx (s p : List UInt8) : Bool := decide (p.length ≤ s.length) && decide (s.take p.length = p)
def sfx (s p : List UInt8) : Bool := decide (p.length ≤ s.length) && decide (s.drop (s.length - p.length) = p)

theorem lhasPrefix_c (s p : List UInt8) (w : World) (hs : s.length ≤ 100000000) (hp : p.length ≤ 100000000) : Calls Tryz.prog 31 [str s, str p].toArray w fun e w' => e = .returned (.bool (pfx s p)) ∧ Keeps none1 w w' := by
 refine aJ (n := 18) (W := SL.none1) (m := []) Tryz.func31 O Tryz.ntmps31 O (aO _ _ _) ?_
 simp only [SL.enum, Nat.reduceAdd]
 refine ah fun K1 hK1 => aj (aa O O O (ak O O) ?_)
 refine ai (ae ?_)
 refine hK1 _ _ (ah fun K2 hK2 => ?_)
 refine aj (aa O O O (af O O) ?_)
 refine aa O O O (bf O O O Tryz.underlying9) (aa O O O (af O O) ?_)
 refine aa O O O (bf O O O Tryz.underlying9) (aa O O O (bB O O O) ?_)
 refine aa O O O (af O O) (aR (d := 10) O (fun hg10 => ?_) (fun hg10 => ?_))
 ·
  have hle : p.length ≤ s.length := by simp at hg10; omega
  refine aq O O O O O O O (af O O) (aq O O O O O O O (af O O) ?_)
  refine aq O O O O O O O (bf O O O Tryz.underlying9) (aq O O O O O O O (SL.Pure.sliceSTo (r := s.take p.length) O O Tryz.underlying9 O O (by omega) (by omega) (by omega) (by simp)) ?_)
  refine aq O O O O O O O (af O O) (aq O O O O O O O (SL.Pure.eqS O O O) ?_)
  refine aa O O O (aF O O O) (aa O O O (ak O O) ?_)
  refine ai (ae ?_)
  refine hK2 _ _ (aw av (ar O (.cons (.tmp O) .nil) O) (fun w' hM' hK' => ?_))
  exact ⟨bj (by first | (simp [pfx] at *; done) | (simp [pfx] at *; omega) | (simp [pfx] <;> omega) | (simp_all [pfx]; done)), hK'⟩
 ·
  refine ag O O O O O O O (ag O O O O O O O ?_)
  refine ag O O O O O O O (ag O O O O O O O ?_)
  refine ag O O O O O O O (ag O O O O O O O ?_)
  refine aa O O O (aE O O O) (aa O O O (ak O O) ?_)
  refine ai (ae ?_)
  refine hK2 _ _ (aw av (ar O (.cons (.tmp O) .nil) O) (fun w' hM' hK' => ?_))
  exact ⟨bj (by first | (simp [pfx] at *; done) | (simp [pfx] at *; omega) | (simp [pfx] <;> omega) | (simp_all [pfx]; done)), hK'⟩
theorem hasPrefix_c (s p : List UInt8) (w : World) (hs : s.length ≤ 100000000) (hp : p.length ≤ 100000000) : Calls Tryz.prog 15 [str s, str p].toArray w fun e w' => e = .returned (.bool (pfx s p)) ∧ Keeps none1 w w' := by
 refine aJ (n := 8) (W := SL.none1) (m := []) Tryz.func15 O Tryz.ntmps15 O (aO _ _ _) ?_
 simp only [SL.enum, Nat.reduceAdd]
 refine ah fun K1 hK1 => aj (aa O O O (ak O O) ?_)
 refine ai (ae ?_)
 refine hK1 _ _ (ah fun K2 hK2 => ?_)
 refine aj (aa O O O (af O O) ?_)
 refine aa O O O (af O O) (am O (aN O O (by kernel_rfl) O O (fun w hM hK => lhasPrefix_c s p w hs hp)) ?_)
 intro _ _
 try simp only [setN, putD, selM, nth, cw, cx]
 refine aa O O O (ak O O) (ai ?_)
 refine ae (hK2 _ _ ?_)
 refine aw av (ar O (.cons (.tmp O) .nil) O) (fun w' hM' hK' => ?_)
 exact ⟨rfl, hK'⟩
theorem lhasSuffix_c (s p : List UInt8) (w : World) (hs : s.length ≤ 100000000) (hp : p.length ≤ 100000000) : Calls Tryz.prog 107 [str s, str p].toArray w fun e w' => e = .returned (.bool (sfx s p)) ∧ Keeps none1 w w' := by
 refine aJ (n := 21) (W := SL.none1) (m := []) Tryz.func107 O Tryz.ntmps107 O (aO _ _ _) ?_
 simp only [SL.enum, Nat.reduceAdd]
 refine ah fun K1 hK1 => aj (aa O O O (ak O O) ?_)
 refine ai (ae ?_)
 refine hK1 _ _ (ah fun K2 hK2 => ?_)
 refine aj (aa O O O (af O O) ?_)
 refine aa O O O (bf O O O Tryz.underlying9) (aa O O O (af O O) ?_)
 refine aa O O O (bf O O O Tryz.underlying9) (aa O O O (bB O O O) ?_)
 refine aa O O O (af O O) (aR (d := 10) O (fun hg10 => ?_) (fun hg10 => ?_))
 ·
  have hle : p.length ≤ s.length := by simp at hg10; omega
  refine aq O O O O O O O (af O O) (aq O O O O O O O (af O O) ?_)
  refine aq O O O O O O O (bf O O O Tryz.underlying9) (aq O O O O O O O (af O O) ?_)
  refine aq O O O O O O O (bf O O O Tryz.underlying9) (aq O O O O O O O (bU O O O O (by omega) (by omega)) ?_)
  refine aq O O O O O O O (SL.Pure.sliceSTo (r := s.drop (s.length - p.length)) O O Tryz.underlying9 O O (by omega) (by omega) (by omega) (by rw [show Int.toNat ((s.length : Int) - (p.length : Int)) = s.length - p.length by omega]; simp)) ?_
  refine aq O O O O O O O (af O O) (aq O O O O O O O (SL.Pure.eqS O O O) ?_)
  refine aa O O O (aF O O O) (aa O O O (ak O O) ?_)
  refine ai (ae ?_)
  refine hK2 _ _ (aw av (ar O (.cons (.tmp O) .nil) O) (fun w' hM' hK' => ?_))
  exact ⟨bj (by first | (simp [sfx] at *; done) | (simp [sfx] at *; omega) | (simp [sfx] <;> omega) | (simp_all [sfx]; done)), hK'⟩
 ·
  refine ag O O O O O O O (ag O O O O O O O ?_)
  refine ag O O O O O O O (ag O O O O O O O ?_)
  refine ag O O O O O O O (ag O O O O O O O ?_)
  refine ag O O O O O O O (ag O O O O O O O ?_)
  refine ag O O O O O O O (aa O O O (aE O O O) ?_)
  refine aa O O O (ak O O) (ai ?_)
  refine ae (hK2 _ _ ?_)
  refine aw av (ar O (.cons (.tmp O) .nil) O) (fun w' hM' hK' => ?_)
  exact ⟨bj (by first | (simp [sfx] at *; done) | (simp [sfx] at *; omega) | (simp [sfx] <;> omega) | (simp_all [sfx]; done)), hK'⟩
theorem hasSuffix_c (s p : List UInt8) (w : World) (hs : s.length ≤ 100000000) (hp : p.length ≤ 100000000) : Calls Tryz.prog 84 [str s, str p].toArray w fun e w' => e = .returned (.bool (sfx s p)) ∧ Keeps none1 w w' := by
 refine aJ (n := 8) (W := SL.none1) (m := []) Tryz.func84 O Tryz.ntmps84 O (aO _ _ _) ?_
 simp only [SL.enum, Nat.reduceAdd]
 refine ah fun K1 hK1 => aj (aa O O O (ak O O) ?_)
 refine ai (ae ?_)
 refine hK1 _ _ (ah fun K2 hK2 => ?_)
 refine aj (aa O O O (af O O) ?_)
 refine aa O O O (af O O) (am O (aN O O (by kernel_rfl) O O (fun w hM hK => lhasSuffix_c s p w hs hp)) ?_)
 intro _ _
 try simp only [setN, putD, selM, nth, cw, cx]
 refine aa O O O (ak O O) (ai ?_)
 refine ae (hK2 _ _ ?_)
 refine aw av (ar O (.cons (.tmp O) .nil) O) (fun w' hM' hK' => ?_)
 exact ⟨rfl, hK'⟩

theorem contains_c (s p : List UInt8) (w : World) (hG : Glob w) (hs : s.length ≤ 100000000) : Calls Tryz.prog 85 [str s, str p].toArray w fun e w' => e = .returned (.bool (Lib.contains s p)) ∧ Keeps none1 w w' := by
 obtain ⟨m, hm⟩ := hG.max
 refine (Tryz.strings_Contains ⟨s.toArray⟩ ⟨p.toArray⟩ m w (by have : (⟨s.toArray⟩ : ByteArray).size = s.length := str_size s; omega) hm).mono fun e w' ⟨he, hw⟩ => ⟨?_, hw ▸ Keeps.refl _ _⟩
 rw [he]

/-- no space at the ends, no two beside each other -/
def sqz (s : List UInt8) : Bool := !pfx s [32] && !sfx s [32] && !Lib.contains s [32, 32]
theorem squeezed_c (s : List UInt8) (w : World) (hG : Glob w) (hs : s.length ≤ 100000000) : Calls Tryz.prog 64 [str s].toArray w fun e w' => e = .returned (.bool (sqz s)) ∧ Keeps none1 w w' := by
 refine aJ (n := 16) (W := SL.none1) (m := []) Tryz.func64 O Tryz.ntmps64 O (aO _ _ _) ?_
 simp only [SL.enum, Nat.reduceAdd]
 refine ah fun K1 hK1 => aj (aa O O O (ak O O) ?_)
 refine ai (ae ?_)
 refine hK1 _ _ (ah fun K2 hK2 => ?_)
 refine aj (aa O O O (af O O) ?_)
 refine am O (aN O O (by kernel_rfl) O O (fun w hM hK => hasPrefix_c s [32] w hs (by decide))) ?_
 intro _ _
 try simp only [setN, putD, selM, nth, cw, cx]
 refine aa O O O (bM O O) (aa O O O (af O O) ?_)
 refine aR (d := 6) O (fun hg6 => ?_) (fun hg6 => ?_)
 ·
  refine aq O O O O O O O (af O O) (SL.Ok.effG O O O O O (aN O O (by kernel_rfl) O O (fun w hM hK => hasSuffix_c s [32] w hs (by decide))) ?_)
  intro _ _
  simp only [setN, putD, selM, nth, cw, cx]
  refine aq O O O O O O O (bM O O) (aa O O O (aF O O O) ?_)
  refine aa O O O (af O O) (aR (d := 11) O (fun hg11 => ?_) (fun hg11 => ?_))
  ·
   refine aq O O O O O O O (af O O) (SL.Ok.effG O O O O O (aN O O (by kernel_rfl) O O (fun w hM hK => contains_c s [32, 32] w (hG.keep hK) hs)) ?_)
   intro _ _
   simp only [setN, putD, selM, nth, cw, cx]
   refine aq O O O O O O O (bM O O) (aa O O O (aF O O O) ?_)
   refine aa O O O (ak O O) (ai ?_)
   refine ae (hK2 _ _ ?_)
   refine aw av (ar O (.cons (.tmp O) .nil) O) (fun w' hM' hK' => ?_)
   exact ⟨bj (by first | (simp [sqz] at *; done) | (simp [sqz] at *; omega) | (simp [sqz] <;> omega) | (simp_all [sqz]; done)), hK'⟩
  ·
   refine ag O O O O O O O (ag O O O O O O O ?_)
   refine ag O O O O O O O (aa O O O (aE O O O) ?_)
   refine aa O O O (ak O O) (ai ?_)
   refine ae (hK2 _ _ ?_)
   refine aw av (ar O (.cons (.tmp O) .nil) O) (fun w' hM' hK' => ?_)
   exact ⟨bj (by first | (simp [sqz] at *; done) | (simp [sqz] at *; omega) | (simp [sqz] <;> omega) | (simp_all [sqz]; done)), hK'⟩
 ·
  refine ag O O O O O O O (ag O O O O O O O ?_)
  refine ag O O O O O O O (aa O O O (aE O O O) ?_)
  refine aa O O O (af O O) (ag O O O O O O O ?_)
  refine ag O O O O O O O (ag O O O O O O O ?_)
  refine aa O O O (aE O O O) (aa O O O (ak O O) ?_)
  refine ai (ae ?_)
  refine hK2 _ _ (aw av (ar O (.cons (.tmp O) .nil) O) (fun w' hM' hK' => ?_))
  exact ⟨bj (by first | (simp [sqz] at *; done) | (simp [sqz] at *; omega) | (simp [sqz] <;> omega) | (simp_all [sqz]; done)), hK'⟩

theorem itoa_c (z : Int) (h0 : 0 ≤ z) (h1 : z ≤ 9223372036854775807) (w : World) (hG : Glob w) : Calls Tryz.prog 55 [.int .i64 z].toArray w fun e w' => e = .returned (str (Lib.decDigits z.toNat)) ∧ Keeps none1 w w' := by
 refine (Tryz.strconv_Itoa z (by omega) h1 w hG.pow).mono fun e w' ⟨he, hw⟩ => ⟨?_, ?_⟩
 ·
  rw [he, Lib.itoa, if_neg (by omega)]; rfl
 ·
  obtain ⟨k, os, rfl⟩ := hw
  exact (Keeps.of_below (below_drewNg w k)).trans ⟨by simp [grow], by simp [grow], by simp [grow], by simp [grow], fun j hj _ => by simp only [grow]; rw [Array.getElem?_append_left hj]⟩
end Go.Proofs.YthfhhkanpnemcaaGreatDoor
namespace Go.Proofs.YthfhhkanpnemcaaGreatDoor
open Go.SL Go.RowKit IntWalk Go.Sort
set_option linter.unusedVariables false
set_option maxRecDepth 100000
set_option linter.unusedSimpArgs false
set_option maxHeartbeats 400000

def perm (c : Int) : Bool := (decide (97 ≤ c) && decide (c ≤ 122)) || (decide (48 ≤ c) && decide (c ≤ 57)) || decide (c = 45) || decide (c = 43) || decide (c = 95)
theorem permitted_c (c : Int) (w : World) : Calls Tryz.prog 140 [.int .i32 c].toArray w fun e w' => e = .returned (.bool (perm c)) ∧ Keeps none1 w w' := by
 refine aJ (n := 29) (W := SL.none1) (m := []) Tryz.func140 O Tryz.ntmps140 O (aO _ _ _) ?_
 simp only [SL.enum, Nat.reduceAdd]
 refine ah fun K1 hK1 => aj (aa O O O (ak O O) ?_)
 refine ai (ae ?_)
 refine hK1 _ _ (ah fun K2 hK2 => ?_)
 refine aj (aa O O O (af O O) ?_)
 refine aa O O O (bB O O O) (aa O O O (af O O) ?_)
 refine aR (d := 5) O (fun hg5 => ?_) (fun hg5 => ?_)
 ·
  refine aq O O O O O O O (af O O) (aq O O O O O O O (bD O O O) ?_)
  refine aa O O O (aF O O O) (aa O O O (af O O) ?_)
  refine aR (d := 9) O (fun hg9 => ?_) (fun hg9 => ?_)
  ·
   refine ag O O O O O O O (ag O O O O O O O ?_)
   refine ag O O O O O O O (bO O O O O O O ?_)
   refine bO O O O O O O (ag O O O O O O O ?_)
   refine aa O O O (aF O O O) (aa O O O (af O O) ?_)
   refine ag O O O O O O O (ag O O O O O O O ?_)
   refine aa O O O (aF O O O) (aa O O O (af O O) ?_)
   refine ag O O O O O O O (ag O O O O O O O ?_)
   refine aa O O O (aF O O O) (aa O O O (af O O) ?_)
   refine ag O O O O O O O (ag O O O O O O O ?_)
   refine aa O O O (aF O O O) (aa O O O (ak O O) ?_)
   refine ai (ae ?_)
   refine hK2 _ _ (aw av (ar O (.cons (.tmp O) .nil) O) (fun w' hM' hK' => ?_))
   exact ⟨bj (by first | (simp [perm] at *; done) | (simp [perm] at *; omega) | (simp [perm] <;> omega) | (simp_all [perm]; done)), hK'⟩
  ·
   refine aq O O O O O O O (af O O) (aq O O O O O O O (bB O O O) ?_)
   refine aq O O O O O O O (af O O) (aR (d := 12) O (fun hg12 => ?_) (fun hg12 => ?_))
   ·
    refine aq O O O O O O O (af O O) (aq O O O O O O O (bD O O O) ?_)
    refine aq O O O O O O O (aF O O O) (aa O O O (aE O O O) ?_)
    refine aa O O O (af O O) (aR (d := 17) O (fun hg17 => ?_) (fun hg17 => ?_))
    ·
     refine ag O O O O O O O (ag O O O O O O O ?_)
     refine aa O O O (aF O O O) (aa O O O (af O O) ?_)
     refine ag O O O O O O O (ag O O O O O O O ?_)
     refine aa O O O (aF O O O) (aa O O O (af O O) ?_)
     refine ag O O O O O O O (ag O O O O O O O ?_)
     refine aa O O O (aF O O O) (aa O O O (ak O O) ?_)
     refine ai (ae ?_)
     refine hK2 _ _ (aw av (ar O (.cons (.tmp O) .nil) O) (fun w' hM' hK' => ?_))
     exact ⟨bj (by first | (simp [perm] at *; done) | (simp [perm] at *; omega) | (simp [perm] <;> omega) | (simp_all [perm]; done)), hK'⟩
    ·
     refine aq O O O O O O O (af O O) (aq O O O O O O O (bt O O O) ?_)
     refine aa O O O (aE O O O) (aa O O O (af O O) ?_)
     refine aR (d := 21) O (fun hg21 => ?_) (fun hg21 => ?_)
     ·
      refine ag O O O O O O O (ag O O O O O O O ?_)
      refine aa O O O (aF O O O) (aa O O O (af O O) ?_)
      refine ag O O O O O O O (ag O O O O O O O ?_)
      refine aa O O O (aF O O O) (aa O O O (ak O O) ?_)
      refine ai (ae ?_)
      refine hK2 _ _ (aw av (ar O (.cons (.tmp O) .nil) O) (fun w' hM' hK' => ?_))
      exact ⟨bj (by first | (simp [perm] at *; done) | (simp [perm] at *; omega) | (simp [perm] <;> omega) | (simp_all [perm]; done)), hK'⟩
     ·
      refine aq O O O O O O O (af O O) (aq O O O O O O O (bt O O O) ?_)
      refine aa O O O (aE O O O) (aa O O O (af O O) ?_)
      refine aR (d := 25) O (fun hg25 => ?_) (fun hg25 => ?_)
      ·
       refine ag O O O O O O O (ag O O O O O O O ?_)
       refine aa O O O (aF O O O) (aa O O O (ak O O) ?_)
       refine ai (ae ?_)
       refine hK2 _ _ (aw av (ar O (.cons (.tmp O) .nil) O) (fun w' hM' hK' => ?_))
       exact ⟨bj (by first | (simp [perm] at *; done) | (simp [perm] at *; omega) | (simp [perm] <;> omega) | (simp_all [perm]; done)), hK'⟩
      ·
       refine aq O O O O O O O (af O O) (aq O O O O O O O (bt O O O) ?_)
       refine aa O O O (aE O O O) (aa O O O (ak O O) ?_)
       refine ai (ae ?_)
       refine hK2 _ _ (aw av (ar O (.cons (.tmp O) .nil) O) (fun w' hM' hK' => ?_))
       exact ⟨bj (by first | (simp [perm] at *; done) | (simp [perm] at *; omega) | (simp [perm] <;> omega) | (simp_all [perm]; done)), hK'⟩
   ·
    refine ag O O O O O O O (ag O O O O O O O ?_)
    refine aq O O O O O O O (aE O O O) (aa O O O (aE O O O) ?_)
    refine aa O O O (af O O) (aq O O O O O O O (af O O) ?_)
    refine aq O O O O O O O (bt O O O) (aa O O O (aE O O O) ?_)
    refine aa O O O (af O O) (aR (d := 21) O (fun hg21 => ?_) (fun hg21 => ?_))
    ·
     refine ag O O O O O O O (ag O O O O O O O ?_)
     refine aa O O O (aF O O O) (aa O O O (af O O) ?_)
     refine ag O O O O O O O (ag O O O O O O O ?_)
     refine aa O O O (aF O O O) (aa O O O (ak O O) ?_)
     refine ai (ae ?_)
     refine hK2 _ _ (aw av (ar O (.cons (.tmp O) .nil) O) (fun w' hM' hK' => ?_))
     exact ⟨bj (by first | (simp [perm] at *; done) | (simp [perm] at *; omega) | (simp [perm] <;> omega) | (simp_all [perm]; done)), hK'⟩
    ·
     refine aq O O O O O O O (af O O) (aq O O O O O O O (bt O O O) ?_)
     refine aa O O O (aE O O O) (aa O O O (af O O) ?_)
     refine aR (d := 25) O (fun hg25 => ?_) (fun hg25 => ?_)
     ·
      refine ag O O O O O O O (ag O O O O O O O ?_)
      refine aa O O O (aF O O O) (aa O O O (ak O O) ?_)
      refine ai (ae ?_)
      refine hK2 _ _ (aw av (ar O (.cons (.tmp O) .nil) O) (fun w' hM' hK' => ?_))
      exact ⟨bj (by first | (simp [perm] at *; done) | (simp [perm] at *; omega) | (simp [perm] <;> omega) | (simp_all [perm]; done)), hK'⟩
     ·
      refine aq O O O O O O O (af O O) (aq O O O O O O O (bt O O O) ?_)
      refine aa O O O (aE O O O) (aa O O O (ak O O) ?_)
      refine ai (ae ?_)
      refine hK2 _ _ (aw av (ar O (.cons (.tmp O) .nil) O) (fun w' hM' hK' => ?_))
      exact ⟨bj (by first | (simp [perm] at *; done) | (simp [perm] at *; omega) | (simp [perm] <;> omega) | (simp_all [perm]; done)), hK'⟩
 ·
  refine ag O O O O O O O (ag O O O O O O O ?_)
  refine aa O O O (aE O O O) (aa O O O (af O O) ?_)
  refine aq O O O O O O O (af O O) (aq O O O O O O O (bB O O O) ?_)
  refine aq O O O O O O O (af O O) (aR (d := 12) O (fun hg12 => ?_) (fun hg12 => ?_))
  ·
   refine aq O O O O O O O (af O O) (aq O O O O O O O (bD O O O) ?_)
   refine aq O O O O O O O (aF O O O) (aa O O O (aE O O O) ?_)
   refine aa O O O (af O O) (aR (d := 17) O (fun hg17 => ?_) (fun hg17 => ?_))
   ·
    refine ag O O O O O O O (ag O O O O O O O ?_)
    refine aa O O O (aF O O O) (aa O O O (af O O) ?_)
    refine ag O O O O O O O (ag O O O O O O O ?_)
    refine aa O O O (aF O O O) (aa O O O (af O O) ?_)
    refine ag O O O O O O O (ag O O O O O O O ?_)
    refine aa O O O (aF O O O) (aa O O O (ak O O) ?_)
    refine ai (ae ?_)
    refine hK2 _ _ (aw av (ar O (.cons (.tmp O) .nil) O) (fun w' hM' hK' => ?_))
    exact ⟨bj (by first | (simp [perm] at *; done) | (simp [perm] at *; omega) | (simp [perm] <;> omega) | (simp_all [perm]; done)), hK'⟩
   ·
    refine aq O O O O O O O (af O O) (aq O O O O O O O (bt O O O) ?_)
    refine aa O O O (aE O O O) (aa O O O (af O O) ?_)
    refine aR (d := 21) O (fun hg21 => ?_) (fun hg21 => ?_)
    ·
     refine ag O O O O O O O (ag O O O O O O O ?_)
     refine aa O O O (aF O O O) (aa O O O (af O O) ?_)
     refine ag O O O O O O O (ag O O O O O O O ?_)
     refine aa O O O (aF O O O) (aa O O O (ak O O) ?_)
     refine ai (ae ?_)
     refine hK2 _ _ (aw av (ar O (.cons (.tmp O) .nil) O) (fun w' hM' hK' => ?_))
     exact ⟨bj (by first | (simp [perm] at *; done) | (simp [perm] at *; omega) | (simp [perm] <;> omega) | (simp_all [perm]; done)), hK'⟩
    ·
     refine aq O O O O O O O (af O O) (aq O O O O O O O (bt O O O) ?_)
     refine aa O O O (aE O O O) (aa O O O (af O O) ?_)
     refine aR (d := 25) O (fun hg25 => ?_) (fun hg25 => ?_)
     ·
      refine ag O O O O O O O (ag O O O O O O O ?_)
      refine aa O O O (aF O O O) (aa O O O (ak O O) ?_)
      refine ai (ae ?_)
      refine hK2 _ _ (aw av (ar O (.cons (.tmp O) .nil) O) (fun w' hM' hK' => ?_))
      exact ⟨bj (by first | (simp [perm] at *; done) | (simp [perm] at *; omega) | (simp [perm] <;> omega) | (simp_all [perm]; done)), hK'⟩
     ·
      refine aq O O O O O O O (af O O) (aq O O O O O O O (bt O O O) ?_)
      refine aa O O O (aE O O O) (aa O O O (ak O O) ?_)
      refine ai (ae ?_)
      refine hK2 _ _ (aw av (ar O (.cons (.tmp O) .nil) O) (fun w' hM' hK' => ?_))
      exact ⟨bj (by first | (simp [perm] at *; done) | (simp [perm] at *; omega) | (simp [perm] <;> omega) | (simp_all [perm]; done)), hK'⟩
  ·
   refine ag O O O O O O O (ag O O O O O O O ?_)
   refine aq O O O O O O O (aE O O O) (aa O O O (aE O O O) ?_)
   refine aa O O O (af O O) (aq O O O O O O O (af O O) ?_)
   refine aq O O O O O O O (bt O O O) (aa O O O (aE O O O) ?_)
   refine aa O O O (af O O) (aR (d := 21) O (fun hg21 => ?_) (fun hg21 => ?_))
   ·
    refine ag O O O O O O O (ag O O O O O O O ?_)
    refine aa O O O (aF O O O) (aa O O O (af O O) ?_)
    refine ag O O O O O O O (ag O O O O O O O ?_)
    refine aa O O O (aF O O O) (aa O O O (ak O O) ?_)
    refine ai (ae ?_)
    refine hK2 _ _ (aw av (ar O (.cons (.tmp O) .nil) O) (fun w' hM' hK' => ?_))
    exact ⟨bj (by first | (simp [perm] at *; done) | (simp [perm] at *; omega) | (simp [perm] <;> omega) | (simp_all [perm]; done)), hK'⟩
   ·
    refine aq O O O O O O O (af O O) (aq O O O O O O O (bt O O O) ?_)
    refine aa O O O (aE O O O) (aa O O O (af O O) ?_)
    refine aR (d := 25) O (fun hg25 => ?_) (fun hg25 => ?_)
    ·
     refine ag O O O O O O O (ag O O O O O O O ?_)
     refine aa O O O (aF O O O) (aa O O O (ak O O) ?_)
     refine ai (ae ?_)
     refine hK2 _ _ (aw av (ar O (.cons (.tmp O) .nil) O) (fun w' hM' hK' => ?_))
     exact ⟨bj (by first | (simp [perm] at *; done) | (simp [perm] at *; omega) | (simp [perm] <;> omega) | (simp_all [perm]; done)), hK'⟩
    ·
     refine aq O O O O O O O (af O O) (aq O O O O O O O (bt O O O) ?_)
     refine aa O O O (aE O O O) (aa O O O (ak O O) ?_)
     refine ai (ae ?_)
     refine hK2 _ _ (aw av (ar O (.cons (.tmp O) .nil) O) (fun w' hM' hK' => ?_))
     exact ⟨bj (by first | (simp [perm] at *; done) | (simp [perm] at *; omega) | (simp [perm] <;> omega) | (simp_all [perm]; done)), hK'⟩
theorem component1_c (c : Int) (w : World) : Calls Tryz.prog 139 [.int .i32 c].toArray w fun e w' => e = .returned (.bool (!perm c)) ∧ Keeps none1 w w' := by
 refine aJ (n := 6) (W := SL.none1) (m := []) Tryz.func139 O Tryz.ntmps139 O (aO _ _ _) ?_
 simp only [SL.enum, Nat.reduceAdd]
 refine ah fun K1 hK1 => aj (aa O O O (ak O O) ?_)
 refine ai (ae ?_)
 refine hK1 _ _ (ah fun K2 hK2 => ?_)
 refine aj (aa O O O (af O O) ?_)
 refine am O (aN O O (by kernel_rfl) O O (fun w hM hK => permitted_c c w)) ?_
 intro _ _
 try simp only [setN, putD, selM, nth, cw, cx]
 refine aa O O O (bM O O) (aa O O O (ak O O) ?_)
 refine ai (ae ?_)
 refine hK2 _ _ (aw av (ar O (.cons (.tmp O) .nil) O) (fun w' hM' hK' => ?_))
 exact ⟨rfl, hK'⟩

theorem containsFunc_c (g : Nat) (p : Nat → Bool) (hg : entersB Tryz.prog g = true) (hp : ∀ (W : World) (x : Nat), x ≤ 1114111 → Calls Tryz.prog g [.int .i32 (x : Int)].toArray W fun e w' => e = .returned (.bool (p x)) ∧ Keeps none1 W w') (s : List UInt8) (w : World) :
  Calls Tryz.prog 69 [str s, .func (.func g) #[] #[]].toArray w fun e w' => e = .returned (.bool (decide (0 ≤ Lib.idxFunc p true ⟨s.toArray⟩))) ∧ Keeps none1 w w' :=
 (Tryz.strings_ContainsFunc_grows g #[] (fun args w => run_call hg args w) p ⟨s.toArray⟩ w (fun W x hx _ => (hp W x hx).mono fun e w' ⟨he, hk⟩ => ⟨he, hk.below⟩)).mono fun e w' ⟨he, hb⟩ => ⟨he, Keeps.of_below hb⟩

def noBad (s : List UInt8) : Bool := !decide (0 ≤ Lib.idxFunc (fun x => !perm (x : Int)) true ⟨s.toArray⟩)
def compM (s : List UInt8) : Bool := decide (s ≠ []) && decide (s.length ≤ 20) && decide (97 ≤ (s.getD 0 0).toNat) && decide ((s.getD 0 0).toNat ≤ 122) && noBad s
theorem component_c (s : List UInt8) (w : World) : Calls Tryz.prog 112 [str s].toArray w fun e w' => e = .returned (.bool (compM s)) ∧ Keeps none1 w w' := by
 refine aJ (n := 25) (W := SL.none1) (m := []) Tryz.func112 O Tryz.ntmps112 O (aO _ _ _) ?_
 simp only [SL.enum, Nat.reduceAdd]
 refine ah fun K1 hK1 => aj (aa O O O (ak O O) ?_)
 refine ai (ae ?_)
 refine hK1 _ _ (ah fun K2 hK2 => ?_)
 refine aj (aa O O O (af O O) ?_)
 refine aa O O O (SL.Pure.neS O O (show _ = some (str []) from O)) (aa O O O (af O O) ?_)
 refine aR (d := 5) O (fun hg5 => ?_) (fun hg5 => ?_)
 ·
  have hne : s ≠ [] := by simpa using hg5
  have hl0 : 0 < s.length := List.length_pos_iff.2 hne
  have h0 : s[(0 : Int).toNat]? = some (s.getD 0 0) := by simp [hl0]
  refine aq O O O O O O O (af O O) (aq O O O O O O O (bf O O O Tryz.underlying9) ?_)
  refine aq O O O O O O O (bD O O O) (aa O O O (aF O O O) ?_)
  refine aa O O O (af O O) (aR (d := 10) O (fun hg10 => ?_) (fun hg10 => ?_))
  ·
   have hl20 : s.length ≤ 20 := by simp at hg10; omega
   refine aq O O O O O O O (af O O) (aq O O O O O O O (bQ O O O Tryz.underlying9 (by omega) h0) ?_)
   refine aq O O O O O O O (bB O O O) (aa O O O (aF O O O) ?_)
   refine aa O O O (af O O) (aR (d := 15) O (fun hg15 => ?_) (fun hg15 => ?_))
   ·
    have h97 : 97 ≤ (s.getD 0 0).toNat := by simp [-List.getD_eq_getElem?_getD] at hg15; omega
    refine aq O O O O O O O (af O O) (aq O O O O O O O (bQ O O O Tryz.underlying9 (by omega) h0) ?_)
    refine aq O O O O O O O (bD O O O) (aa O O O (aF O O O) ?_)
    refine aa O O O (af O O) (aR (d := 20) O (fun hg20 => ?_) (fun hg20 => ?_))
    ·
     have h122 : (s.getD 0 0).toNat ≤ 122 := by simp [-List.getD_eq_getElem?_getD] at hg20; omega
     refine aq O O O O O O O (af O O) (SL.Ok.effG O O O O O (aN O O (by kernel_rfl) O O (fun w hM hK => containsFunc_c 139 (fun x => !perm (x : Int)) (by kernel_rfl) (fun W x _ => component1_c (x : Int) W) s w)) ?_)
     intro _ _
     simp only [setN, putD, selM, nth, cw, cx]
     refine aq O O O O O O O (bM O O) (aa O O O (aF O O O) ?_)
     refine aa O O O (ak O O) (ai ?_)
     refine ae (hK2 _ _ ?_)
     refine aw av (ar O (.cons (.tmp O) .nil) O) (fun w' hM' hK' => ?_)
     exact ⟨bj (by simp [-List.getD_eq_getElem?_getD, compM, noBad, hne, hl20, h97, h122]), hK'⟩
    ·
     have h122 : ¬ (s.getD 0 0).toNat ≤ 122 := by simp [-List.getD_eq_getElem?_getD] at hg20; omega
     refine ag O O O O O O O (ag O O O O O O O ?_)
     refine ag O O O O O O O (aa O O O (aE O O O) ?_)
     refine aa O O O (ak O O) (ai ?_)
     refine ae (hK2 _ _ ?_)
     refine aw av (ar O (.cons (.tmp O) .nil) O) (fun w' hM' hK' => ?_)
     exact ⟨bj (by simp only [compM, h122]; simp [-List.getD_eq_getElem?_getD] <;> omega), hK'⟩
   ·
    have h97 : ¬ 97 ≤ (s.getD 0 0).toNat := by simp [-List.getD_eq_getElem?_getD] at hg15; omega
    refine ag O O O O O O O (ag O O O O O O O ?_)
    refine ag O O O O O O O (aa O O O (aE O O O) ?_)
    refine aa O O O (af O O) (ag O O O O O O O ?_)
    refine ag O O O O O O O (ag O O O O O O O ?_)
    refine aa O O O (aE O O O) (aa O O O (ak O O) ?_)
    refine ai (ae ?_)
    refine hK2 _ _ (aw av (ar O (.cons (.tmp O) .nil) O) (fun w' hM' hK' => ?_))
    exact ⟨bj (by simp only [compM, h97]; simp [-List.getD_eq_getElem?_getD] <;> omega), hK'⟩
  ·
   have hl20 : ¬ s.length ≤ 20 := by simp at hg10; omega
   refine ag O O O O O O O (ag O O O O O O O ?_)
   refine ag O O O O O O O (aa O O O (aE O O O) ?_)
   refine aa O O O (af O O) (ag O O O O O O O ?_)
   refine ag O O O O O O O (ag O O O O O O O ?_)
   refine aa O O O (aE O O O) (aa O O O (af O O) ?_)
   refine ag O O O O O O O (ag O O O O O O O ?_)
   refine ag O O O O O O O (aa O O O (aE O O O) ?_)
   refine aa O O O (ak O O) (ai ?_)
   refine ae (hK2 _ _ ?_)
   refine aw av (ar O (.cons (.tmp O) .nil) O) (fun w' hM' hK' => ?_)
   exact ⟨bj (by simp [compM, hl20]), hK'⟩
 ·
  have hne : s = [] := by simpa using hg5
  refine ag O O O O O O O (ag O O O O O O O ?_)
  refine ag O O O O O O O (aa O O O (aE O O O) ?_)
  refine aa O O O (af O O) (ag O O O O O O O ?_)
  refine ag O O O O O O O (ag O O O O O O O ?_)
  refine aa O O O (aE O O O) (aa O O O (af O O) ?_)
  refine ag O O O O O O O (ag O O O O O O O ?_)
  refine ag O O O O O O O (aa O O O (aE O O O) ?_)
  refine aa O O O (af O O) (ag O O O O O O O ?_)
  refine ag O O O O O O O (ag O O O O O O O ?_)
  refine aa O O O (aE O O O) (aa O O O (ak O O) ?_)
  refine ai (ae ?_)
  refine hK2 _ _ (aw av (ar O (.cons (.tmp O) .nil) O) (fun w' hM' hK' => ?_))
  exact ⟨bj (by simp [compM, hne]), hK'⟩
theorem check1_c (s : List UInt8) (w : World) : Calls Tryz.prog 111 [str s].toArray w fun e w' => e = .returned (.bool (!compM s)) ∧ Keeps none1 w w' := by
 refine aJ (n := 6) (W := SL.none1) (m := []) Tryz.func111 O Tryz.ntmps111 O (aO _ _ _) ?_
 simp only [SL.enum, Nat.reduceAdd]
 refine ah fun K1 hK1 => aj (aa O O O (ak O O) ?_)
 refine ai (ae ?_)
 refine hK1 _ _ (ah fun K2 hK2 => ?_)
 refine aj (aa O O O (af O O) ?_)
 refine am O (aN O O (by kernel_rfl) O O (fun w hM hK => component_c s w)) ?_
 intro _ _
 try simp only [setN, putD, selM, nth, cw, cx]
 refine aa O O O (bM O O) (aa O O O (ak O O) ?_)
 refine ai (ae ?_)
 refine hK2 _ _ (aw av (ar O (.cons (.tmp O) .nil) O) (fun w' hM' hK' => ?_))
 exact ⟨rfl, hK'⟩

/-! ### Slices of strings -/
theorem sIndexFunc_c (xs : List (List UInt8)) (a : Option Addr) (len cap : Nat) (w : World) (hR : RC 1 w a len (xs.map str)) :
  Calls Tryz.prog 138 [.slice a len cap, .func (.func 111) #[] #[]].toArray w fun e w' => ∃ k : Int, (0 ≤ k ↔ (xs.any fun s => !compM s) = true) ∧ e = .returned (.int .i64 k) ∧ Post w (blocksOf []) [] w' := by
 obtain ⟨h1, h2, h3⟩ := hR
 have hl : xs.length = len := by simpa using h1
 subst hl
 unfold maxLen at h2
 have hno : ∀ b : Nat, ¬ blocksOf [] b := by rintro b ⟨res, h, _⟩; cases h
 refine aJ (n := 19) (W := (blocksOf [])) (m := []) Tryz.func138 O Tryz.ntmps138 O (aO _ _ _) ?_
 simp only [SL.enum, Nat.reduceAdd]
 refine ah fun K1 hK1 => aj (aa O O O (ak O O) ?_)
 refine ai (ae ?_)
 refine hK1 _ _ (ah fun K2 hK2 => ?_)
 refine ah fun K3 hK3 => aj (aa O O O (af O O) ?_)
 refine aa O O O (bw O O O Tryz.underlying23) (aa O O O (af O O) ?_)
 refine ai (ae ?_)
 refine hK3 _ _ (aK ?_)
 refine bu (X := Nat) (φ := fun i => i ≤ xs.length ∧ ((xs.take i).any fun s => !compM s) = false) (L := fun i => [(0, .slice a xs.length cap), (1, .func (.func 111) #[] #[]), (7, .int .i64 xs.length), (8, .int .i64 i)]) (M := fun i => []) (μ := fun i => xs.length - i) ?_ ?_
 ·
  exact fun _ _ st => ⟨0, ⟨Nat.zero_le _, by simp⟩, st.to [] ⟨rfl, rfl, rfl, rfl, trivial⟩ O rfl⟩
 ·
  intro i ⟨hi, hno2⟩
  try dsimp only
  refine ah fun K4 hK4 => aj (aa O O O (aT O O O) ?_)
  refine ai (ae ?_)
  refine hK4 _ _ (ah fun K5 hK5 => ?_)
  refine aH O (fun hc9 => ?_) (fun hc9 => ?_)
  ·
   have hlt : i < xs.length := by simp at hc9; omega
   rcases h3 with h3 | ⟨b, off, rfl, hb, hc⟩
   ·
    omega
   have hx := hc i (str xs[i]) (by simp [hlt])
   refine aC (ae ?_)
   refine hK5 _ _ (ah fun K6 hK6 => ?_)
   refine aK (ah fun K7 hK7 => ?_)
   refine aj (aa O O O (af O O) ?_)
   refine aa O O O (ak O O) (ai ?_)
   refine ae (hK7 _ _ ?_)
   refine ah fun K8 hK8 => aj (aa O O O (af O O) ?_)
   refine aa O O O (af O O) (aa O O O (af O O) ?_)
   refine aa O O O (bx (sz := 1) (off' := off + i) O O O Tryz.underlying23 (by kernel_rfl) (by omega) (by omega) (by omega)) ?_
   refine aa O O O (cj hb (hno b) hx O O (by kernel_rfl)) ?_
   refine am O (aN O O (by kernel_rfl) O O (fun w hM hK => check1_c xs[i] w)) ?_
   intro _ _
   try simp only [setN, putD, selM, nth, cw, cx]
   refine ai (ae ?_)
   refine hK8 _ _ (aH O (fun hc16 => ?_) (fun hc16 => ?_))
   ·
    have hbad : compM xs[i] = false := by simpa using hc16
    refine ah fun K9 hK9 => aj (aa O O O (af O O) ?_)
    refine aa O O O (ak O O) (ai ?_)
    refine ae (hK9 _ _ ?_)
    refine aw (aP (aB (aB (aP (aB av))))) (ar O (.cons (.tmp O) .nil) O) (fun w' hM' hK' => ?_)
    exact ⟨(i : Int), ⟨fun _ => List.any_eq_true.2 ⟨xs[i], List.getElem_mem hlt, by simp [hbad]⟩, fun _ => Int.natCast_nonneg _⟩, rfl, hK', hM'⟩
   ·
    have hgood : compM xs[i] = true := by simpa using hc16
    refine aC (aQ ?_)
    refine ae (hK6 _ _ ?_)
    refine aj (aa O O O (aL O O O O (by omega) (by omega)) ?_)
    refine aa O O O (af O O) (ai ?_)
    refine ae ?_
    exact bd (i + 1) [] ⟨by omega, by rw [List.take_succ_eq_append_getElem hlt, List.any_append, hno2]; simp [hgood]⟩ (show xs.length - (i + 1) < xs.length - i by omega) ⟨rfl, rfl, rfl, rfl, trivial⟩ O rfl
  ·
   have hie : i = xs.length := by simp at hc9; omega
   subst hie
   rw [List.take_length] at hno2
   refine aU (aI ?_)
   refine aI (aV ?_)
   refine ae (hK2 _ _ ?_)
   refine ah fun K10 hK10 => aj (aa O O O (ak O O) ?_)
   refine ai (ae ?_)
   refine hK10 _ _ (aw av (ar O (.cons (.tmp O) .nil) O) (fun w' hM' hK' => ?_))
   exact ⟨-1, ⟨fun h => by omega, fun h => by rw [hno2] at h; cases h⟩, rfl, hK', hM'⟩
theorem sContainsFunc_c (xs : List (List UInt8)) (a : Option Addr) (len cap : Nat) (w : World) (hR : RC 1 w a len (xs.map str)) :
  Calls Tryz.prog 110 [.slice a len cap, .func (.func 111) #[] #[]].toArray w fun e w' => e = .returned (.bool (xs.any fun s => !compM s)) ∧ Keeps none1 w w' := by
 refine aJ (n := 9) (W := SL.none1) (m := []) Tryz.func110 O Tryz.ntmps110 O (aO _ _ _) ?_
 simp only [SL.enum, Nat.reduceAdd]
 refine ah fun K1 hK1 => aj (aa O O O (ak O O) ?_)
 refine ai (ae ?_)
 refine hK1 _ _ (ah fun K2 hK2 => ?_)
 refine aj (aa O O O (af O O) ?_)
 refine aa O O O (af O O) (am O (aM [] [] O O (by kernel_rfl) O O O O (fun w hM hK => sIndexFunc_c xs a len cap w (hR.keep hK))) ?_)
 intro k hk
 try simp only [setN, putD, selM, nth, cw, cx]
 refine aa O O O (bB O O O) (aa O O O (ak O O) ?_)
 refine ai (ae ?_)
 refine hK2 _ _ (aw av (ar O (.cons (.tmp O) .nil) O) (fun w' hM' hK' => ?_))
 exact ⟨bj (by rw [← hk]; simp), hK'⟩

theorem sIndex_c (xs : List (List UInt8)) (x : List UInt8) (a : Option Addr) (len cap : Nat) (w : World) (hR : RC 1 w a len (xs.map str)) :
  Calls Tryz.prog 113 [.slice a len cap, str x].toArray w fun e w' => ∃ k : Int, (0 ≤ k ↔ x ∈ xs) ∧ e = .returned (.int .i64 k) ∧ Post w (blocksOf []) [] w' := by
 obtain ⟨h1, h2, h3⟩ := hR
 have hl : xs.length = len := by simpa using h1
 subst hl
 unfold maxLen at h2
 have hno : ∀ b : Nat, ¬ blocksOf [] b := by rintro b ⟨res, h, _⟩; cases h
 refine aJ (n := 19) (W := (blocksOf [])) (m := []) Tryz.func113 O Tryz.ntmps113 O (aO _ _ _) ?_
 simp only [SL.enum, Nat.reduceAdd]
 refine ah fun K1 hK1 => aj (aa O O O (ak O O) ?_)
 refine ai (ae ?_)
 refine hK1 _ _ (ah fun K2 hK2 => ?_)
 refine ah fun K3 hK3 => aj (aa O O O (af O O) ?_)
 refine aa O O O (bw O O O Tryz.underlying23) (aa O O O (af O O) ?_)
 refine ai (ae ?_)
 refine hK3 _ _ (aK ?_)
 refine bu (X := Nat) (φ := fun i => i ≤ xs.length ∧ x ∉ xs.take i) (L := fun i => [(0, .slice a xs.length cap), (1, str x), (7, .int .i64 xs.length), (8, .int .i64 i)]) (M := fun i => []) (μ := fun i => xs.length - i) ?_ ?_
 ·
  exact fun _ _ st => ⟨0, ⟨Nat.zero_le _, by simp⟩, st.to [] ⟨rfl, rfl, rfl, rfl, trivial⟩ O rfl⟩
 ·
  intro i ⟨hi, hno2⟩
  try dsimp only
  refine ah fun K4 hK4 => aj (aa O O O (aT O O O) ?_)
  refine ai (ae ?_)
  refine hK4 _ _ (ah fun K5 hK5 => ?_)
  refine aH O (fun hc9 => ?_) (fun hc9 => ?_)
  ·
   have hlt : i < xs.length := by simp at hc9; omega
   rcases h3 with h3 | ⟨b, off, rfl, hb, hc⟩
   ·
    omega
   have hx := hc i (str xs[i]) (by simp [hlt])
   refine aC (ae ?_)
   refine hK5 _ _ (ah fun K6 hK6 => ?_)
   refine aK (ah fun K7 hK7 => ?_)
   refine aj (aa O O O (af O O) ?_)
   refine aa O O O (ak O O) (ai ?_)
   refine ae (hK7 _ _ ?_)
   refine ah fun K8 hK8 => aj (aa O O O (af O O) ?_)
   refine aa O O O (af O O) (aa O O O (af O O) ?_)
   refine aa O O O (bx (sz := 1) (off' := off + i) O O O Tryz.underlying23 (by kernel_rfl) (by omega) (by omega) (by omega)) ?_
   refine aa O O O (cj hb (hno b) hx O O (by kernel_rfl)) ?_
   refine aa O O O (SL.Pure.eqS O O O) (ai ?_)
   refine ae (hK8 _ _ ?_)
   refine aH O (fun hc16 => ?_) (fun hc16 => ?_)
   ·
    have he : x = xs[i] := by simpa using hc16
    refine ah fun K9 hK9 => aj (aa O O O (af O O) ?_)
    refine aa O O O (ak O O) (ai ?_)
    refine ae (hK9 _ _ ?_)
    refine aw (aP (aB (aB (aP (aB av))))) (ar O (.cons (.tmp O) .nil) O) (fun w' hM' hK' => ?_)
    exact ⟨(i : Int), ⟨fun _ => he ▸ List.getElem_mem hlt, fun _ => Int.natCast_nonneg _⟩, rfl, hK', hM'⟩
   ·
    have he : ¬ x = xs[i] := by simpa using hc16
    refine aC (aQ ?_)
    refine ae (hK6 _ _ ?_)
    refine aj (aa O O O (aL O O O O (by omega) (by omega)) ?_)
    refine aa O O O (af O O) (ai ?_)
    refine ae ?_
    exact bd (i + 1) [] ⟨by omega, by rw [List.take_succ_eq_append_getElem hlt]; simp only [List.mem_append, List.mem_singleton, not_or]; exact ⟨hno2, he⟩⟩ (show xs.length - (i + 1) < xs.length - i by omega) ⟨rfl, rfl, rfl, rfl, trivial⟩ O rfl
  ·
   have hie : i = xs.length := by simp at hc9; omega
   subst hie
   rw [List.take_length] at hno2
   refine aU (aI ?_)
   refine aI (aV ?_)
   refine ae (hK2 _ _ ?_)
   refine ah fun K10 hK10 => aj (aa O O O (ak O O) ?_)
   refine ai (ae ?_)
   refine hK10 _ _ (aw av (ar O (.cons (.tmp O) .nil) O) (fun w' hM' hK' => ?_))
   exact ⟨-1, ⟨fun h => by omega, fun h => absurd h hno2⟩, rfl, hK', hM'⟩
theorem sContains_c (xs : List (List UInt8)) (x : List UInt8) (a : Option Addr) (len cap : Nat) (w : World) (hR : RC 1 w a len (xs.map str)) :
  Calls Tryz.prog 87 [.slice a len cap, str x].toArray w fun e w' => e = .returned (.bool (decide (x ∈ xs))) ∧ Keeps none1 w w' := by
 refine aJ (n := 9) (W := SL.none1) (m := []) Tryz.func87 O Tryz.ntmps87 O (aO _ _ _) ?_
 simp only [SL.enum, Nat.reduceAdd]
 refine ah fun K1 hK1 => aj (aa O O O (ak O O) ?_)
 refine ai (ae ?_)
 refine hK1 _ _ (ah fun K2 hK2 => ?_)
 refine aj (aa O O O (af O O) ?_)
 refine aa O O O (af O O) (am O (aM [] [] O O (by kernel_rfl) O O O O (fun w hM hK => sIndex_c xs x a len cap w (hR.keep hK))) ?_)
 intro k hk
 try simp only [setN, putD, selM, nth, cw, cx]
 refine aa O O O (bB O O O) (aa O O O (ak O O) ?_)
 refine ai (ae ?_)
 refine hK2 _ _ (aw av (ar O (.cons (.tmp O) .nil) O) (fun w' hM' hK' => ?_))
 exact ⟨bj (by simp [hk]), hK'⟩

/-! ### Names -/
/-- the components of a name -/
def gparts (s : List UInt8) : List (List UInt8) := (Lib.splitB ⟨#[46]⟩ 0 (Lib.countB ⟨s.toArray⟩ ⟨#[46]⟩) ⟨s.toArray⟩).map (·.data.toList)
theorem gparts_map (s : List UInt8) : (Lib.splitB ⟨#[46]⟩ 0 (Lib.countB ⟨s.toArray⟩ ⟨#[46]⟩) ⟨s.toArray⟩).map Value.string = (gparts s).map str := by
 unfold gparts
 rw [List.map_map]
 apply List.map_congr_left
 intro x _
 simp [str]

theorem split_c (s : List UInt8) (hs : s.length ≤ 1000000) (w : World) (hG : Glob w) : Calls Tryz.prog 109 [str s, str [46]].toArray w fun e w' => ∃ g : Nat, True ∧ e = .returned (.slice (some ⟨g, 0, none⟩) (gparts s).length (gparts s).length) ∧ Post w (blocksOf []) [.row (.slice (some ⟨g, 0, none⟩) (gparts s).length (gparts s).length) 9 1 (gparts s).length ((gparts s).map str)] w' := by
 obtain ⟨m, hm⟩ := hG.max
 have hl : (gparts s).length = Lib.countB ⟨s.toArray⟩ ⟨#[46]⟩ + 1 := by
  unfold gparts
  rw [List.length_map]
  exact Lib.splitB_all ⟨#[46]⟩ (by decide) 0 _ ⟨s.toArray⟩ rfl
 refine (Tryz.strings_Split ⟨s.toArray⟩ ⟨#[46]⟩ m w (by have : (⟨s.toArray⟩ : ByteArray).size = s.length := str_size s; omega) hm (by decide)).mono fun e w' ⟨he, hw⟩ => ⟨w.heap.size, trivial, ?_, ?_⟩
 ·
  rw [he, hl]
 ·
  subst hw
  have hK : Keeps none1 w (w.alloc (.cells ((Lib.splitB ⟨#[46]⟩ 0 (Lib.countB ⟨s.toArray⟩ ⟨#[46]⟩) ⟨s.toArray⟩).map Value.string).toArray 9)) := Keeps.alloc none1 w _
  rw [gparts_map] at hK ⊢
  have hcl := Lib.countB_le ⟨#[46]⟩ (by decide) s.length ⟨s.toArray⟩ (by rw [str_size]; exact Nat.le_refl _)
  refine ⟨hK.weak, (Mem.nil _ w _).cons_new hK (Nat.le_refl _) ⟨by simp, .inr ⟨w.heap.size, _, _, (0, 0), rfl, Nat.zero_le _, heap_alloc_new w _, Nat.zero_le _, Nat.le_refl _, ?_, by simp, by rw [Nat.mul_one, List.take_of_length_le (by simp)]⟩⟩ (fun k hk => by simp [Res.block, Value.ownBlock] at hk; omega)⟩
  rw [hl]; unfold maxLen
  have : (⟨s.toArray⟩ : ByteArray).size = s.length := str_size s
  omega

/-- the error of a name -/
def gnErr (s : List UInt8) : Int := if 80 < s.length then 5 else if ((gparts s).any fun x => !compM x) = true then 12 else if 10 < (gparts s).length then 9 else 0

theorem gcheck_c (s : List UInt8) (hs : s.length ≤ 100000000) (w : World) (hG : Glob w) : Calls Tryz.prog 86 [str s].toArray w fun e w' => e = .returned (.int .i64 (gnErr s)) ∧ Keeps none1 w w' := by
 refine aJ (n := 14) (W := SL.none1) (m := []) Tryz.func86 O Tryz.ntmps86 O (aO _ _ _) ?_
 simp only [SL.enum, Nat.reduceAdd]
 refine ah fun K1 hK1 => aj (aa O O O (ak O O) ?_)
 refine ai (ae ?_)
 refine hK1 _ _ (ah fun K2 hK2 => ?_)
 refine ah fun K3 hK3 => aj (aa O O O (af O O) ?_)
 refine aa O O O (bf O O O Tryz.underlying9) (aa O O O (bH O O O) ?_)
 refine ai (ae ?_)
 refine hK3 _ _ (aH O (fun hc6 => ?_) (fun hc6 => ?_))
 ·
  have h80 : 80 < s.length := by simp at hc6; omega
  refine ah fun K4 hK4 => aj (aa O O O (ak O O) ?_)
  refine ai (ae ?_)
  refine hK4 _ _ (aw (aB av) (ar O (.cons (.tmp O) .nil) O) (fun w' hM' hK' => ?_))
  exact ⟨by rw [gnErr, if_pos h80]; rfl, hK'⟩
 ·
  have h80 : ¬ 80 < s.length := by simp at hc6; omega
  refine aC (ae ?_)
  refine hK2 _ _ (ah fun K5 hK5 => ?_)
  refine aj (aa O O O (af O O) ?_)
  refine am O (aM [] [] O O (by kernel_rfl) O O O O (fun w hM hK => split_c s (by omega) w (hG.keep hK))) ?_
  intro g8 _
  try simp only [setN, putD, selM, nth, cw, cx]
  refine aa O O O (ak O O) (ai ?_)
  refine ae (hK5 _ _ ?_)
  refine ah fun K6 hK6 => ah fun K7 hK7 => aj (aa O O O (af O O) ?_)
  refine am O (aN O O (by kernel_rfl) O O (fun w hM hK => sContainsFunc_c (gparts s) _ _ _ w (bK (i := 0) O hM))) ?_
  intro _ _
  try simp only [setN, putD, selM, nth, cw, cx]
  refine ai (ae ?_)
  refine hK7 _ _ (aH O (fun hc10 => ?_) (fun hc10 => ?_))
  ·
   have hb : ((gparts s).any fun x => !compM x) = true := hc10
   refine ah fun K8 hK8 => aj (aa O O O (ak O O) ?_)
   refine ai (ae ?_)
   refine hK8 _ _ (aw (aB av) (ar O (.cons (.tmp O) .nil) O) (fun w' hM' hK' => ?_))
   exact ⟨by rw [gnErr, if_neg h80, if_pos hb]; rfl, hK'⟩
  ·
   have hb : ¬ ((gparts s).any fun x => !compM x) = true := by rw [hc10]; decide
   refine aC (ae ?_)
   refine hK6 _ _ (ah fun K9 hK9 => ?_)
   refine ah fun K10 hK10 => aj (aa O O O (af O O) ?_)
   refine aa O O O (bw O O O Tryz.underlying23) (aa O O O (bH O O O) ?_)
   refine ai (ae ?_)
   refine hK10 _ _ (aH O (fun hc13 => ?_) (fun hc13 => ?_))
   ·
    have h10 : 10 < (gparts s).length := by simp at hc13; omega
    refine ah fun K11 hK11 => aj (aa O O O (ak O O) ?_)
    refine ai (ae ?_)
    refine hK11 _ _ (aw (aB av) (ar O (.cons (.tmp O) .nil) O) (fun w' hM' hK' => ?_))
    exact ⟨by rw [gnErr, if_neg h80, if_neg hb, if_pos h10]; rfl, hK'⟩
   ·
    have h10 : ¬ 10 < (gparts s).length := by simp at hc13; omega
    refine aC (ae ?_)
    refine hK9 _ _ (ah fun K12 hK12 => ?_)
    refine aj (aa O O O (ak O O) ?_)
    refine ai (ae ?_)
    refine hK12 _ _ (aw av (ar O (.cons (.tmp O) .nil) O) (fun w' hM' hK' => ?_))
    exact ⟨by rw [gnErr, if_neg h80, if_neg hb, if_neg h10]; rfl, hK'⟩

def lsErr : List (List UInt8) → List (List UInt8) → Int
 | _, [] => 0
 | seen, s :: t => if gnErr s ≠ 0 then gnErr s else if s ∈ seen then 7 else lsErr (seen ++ [s]) t
def listErr (xs : List (List UInt8)) : Int := if 20 < xs.length then 9 else lsErr [] xs

theorem glist_c (xs : List (List UInt8)) (a : Option Addr) (len cap : Nat) (hcap : len ≤ cap) (hb : ∀ x ∈ xs, x.length ≤ 100000000) (w : World) (hG : Glob w) (hR : RC 1 w a len (xs.map str)) :
  Calls Tryz.prog 65 [.slice a len cap].toArray w fun e w' => e = .returned (.tuple #[if listErr xs = 0 then .slice a len cap else .slice none 0 0, .int .i64 (listErr xs)]) ∧ Keeps none1 w w' := by
 have hRR := hR
 obtain ⟨h1, h2, h3⟩ := hR
 have hl : xs.length = len := by simpa using h1
 subst hl
 unfold maxLen at h2
 refine aJ (n := 29) (W := SL.none1) (m := []) Tryz.func65 O Tryz.ntmps65 O (aO _ _ _) ?_
 simp only [SL.enum, Nat.reduceAdd]
 refine ah fun K1 hK1 => aj (aa O O O (ak O O) ?_)
 refine aa O O O (ak O O) (ai ?_)
 refine ae (hK1 _ _ ?_)
 refine ah fun K2 hK2 => ah fun K3 hK3 => aj (aa O O O (af O O) ?_)
 refine aa O O O (bw O O O Tryz.underlying23) (aa O O O (bH O O O) ?_)
 refine ai (ae ?_)
 refine hK3 _ _ (aH O (fun hc9 => ?_) (fun hc9 => ?_))
 ·
  have hgt : 20 < xs.length := by simp at hc9; omega
  refine ah fun K4 hK4 => aj (aa O O O (ak O O) ?_)
  refine aa O O O (ak O O) (ai ?_)
  refine ae (hK4 _ _ ?_)
  refine aw (aB av) (ar O (.cons (.tmp O) (.cons (.tmp O) .nil)) O) (fun w' hM' hK' => ?_)
  exact ⟨by rw [listErr, if_pos hgt]; rfl, hK'⟩
 ·
  have hgt : ¬ 20 < xs.length := by simp at hc9; omega
  refine aC (ae ?_)
  refine hK2 _ _ (ah fun K5 hK5 => ?_)
  refine ah fun K6 hK6 => aj (aa O O O (af O O) ?_)
  refine aa O O O (bw O O O Tryz.underlying23) (aa O O O (af O O) ?_)
  refine ai (ae ?_)
  refine hK6 _ _ (aK ?_)
  refine bu (X := Nat) (φ := fun i => i ≤ xs.length ∧ lsErr (xs.take i) (xs.drop i) = lsErr [] xs) (L := fun i => [(0, .slice a xs.length cap), (10, .slice a xs.length cap), (11, .int .i64 xs.length), (12, .int .i64 i)]) (M := fun i => []) (μ := fun i => xs.length - i) ?_ ?_
  ·
   exact fun _ _ st => ⟨0, ⟨Nat.zero_le _, by simp⟩, st.to [] ⟨rfl, rfl, rfl, rfl, trivial⟩ O rfl⟩
  ·
   intro i ⟨hi, hrk⟩
   try dsimp only
   refine ah fun K7 hK7 => aj (aa O O O (aT O O O) ?_)
   refine ai (ae ?_)
   refine hK7 _ _ (ah fun K8 hK8 => ?_)
   refine aH O (fun hc13 => ?_) (fun hc13 => ?_)
   ·
    have hlt : i < xs.length := by simp at hc13; omega
    rcases h3 with h3 | ⟨b, off, rfl, hbl, hc⟩
    ·
     omega
    have hx := hc i (str xs[i]) (by simp [hlt])
    have hdr : xs.drop i = xs[i] :: xs.drop (i + 1) := List.drop_eq_getElem_cons hlt
    rw [hdr, lsErr] at hrk
    refine aC (ae ?_)
    refine hK8 _ _ (ah fun K9 hK9 => ?_)
    refine aK (ah fun K10 hK10 => ?_)
    refine aj (aa O O O (af O O) ?_)
    refine aa O O O (bx (sz := 1) (off' := off + i) O O O Tryz.underlying23 (by kernel_rfl) (by omega) (by omega) (by omega)) ?_
    refine aa O O O (cj hbl (fun h => h) hx O O (by kernel_rfl)) ?_
    refine aa O O O (ak O O) (aa O O O (ak O O) ?_)
    refine ai (ae ?_)
    refine hK10 _ _ (ah fun K11 hK11 => ?_)
    refine ah fun K12 hK12 => aj (aa O O O (af O O) ?_)
    refine am O (aN O O (by kernel_rfl) O O (fun w hM hK => gcheck_c xs[i] (hb _ (List.getElem_mem hlt)) w (hG.keep hK))) ?_
    intro _ _
    try simp only [setN, putD, selM, nth, cw, cx]
    refine aa O O O (ak O O) (ai ?_)
    refine ae (hK12 _ _ ?_)
    refine ah fun K13 hK13 => aj (aa O O O (af O O) ?_)
    refine aa O O O (bl O O O) (ai ?_)
    refine ae (hK13 _ _ ?_)
    refine aH O (fun hc20 => ?_) (fun hc20 => ?_)
    ·
     have he : gnErr xs[i] ≠ 0 := by simpa using hc20
     rw [if_pos he] at hrk
     refine ah fun K14 hK14 => aj (aa O O O (af O O) ?_)
     refine aa O O O (ak O O) (aa O O O (ak O O) ?_)
     refine ai (ae ?_)
     refine hK14 _ _ (aw (aB (aP (aB (aB (aP (aB av)))))) (ar O (.cons (.tmp O) (.cons (.tmp O) .nil)) O) (fun w' hM' hK' => ?_))
     exact ⟨by rw [listErr, if_neg hgt, ← hrk, if_neg he]; rfl, hK'⟩
    ·
     have he : ¬ gnErr xs[i] ≠ 0 := by simpa using hc20
     rw [if_neg he] at hrk
     refine aC (ae ?_)
     refine hK11 _ _ (ah fun K15 hK15 => ?_)
     refine aj (aa O O O (af O O) ?_)
     refine aa O O O (af O O) (aa O O O (SL.Pure.sliceTo (sz := 1) (o' := off) (len' := i) (cap' := cap) O O Tryz.underlying23 (by kernel_rfl) O O (by omega) (by omega) (by omega) (by omega) (by split <;> simp) (by omega) (by omega)) ?_)
     refine aa O O O (af O O) (am O (aN O O (by kernel_rfl) O O (fun w hM hK => sContains_c (xs.take i) xs[i] (some ⟨b, off, none⟩) i cap w (by have hp := (hRR.keep hK).part (i := 0) (j := i) (Nat.zero_le _) (by omega); rw [Nat.zero_mul, Nat.add_zero, List.drop_zero, Nat.sub_zero, Nat.mul_one, ← List.map_take] at hp; exact hp))) ?_)
     intro _ _
     try simp only [setN, putD, selM, nth, cw, cx]
     refine ai (ae ?_)
     refine hK15 _ _ (aH O (fun hc26 => ?_) (fun hc26 => ?_))
     ·
      have hm : xs[i] ∈ xs.take i := by simpa using hc26
      rw [if_pos hm] at hrk
      refine ah fun K16 hK16 => aj (aa O O O (ak O O) ?_)
      refine aa O O O (ak O O) (ai ?_)
      refine ae (hK16 _ _ ?_)
      refine aw (aP (aB (aB (aP (aB av))))) (ar O (.cons (.tmp O) (.cons (.tmp O) .nil)) O) (fun w' hM' hK' => ?_)
      exact ⟨by rw [listErr, if_neg hgt, ← hrk]; rfl, hK'⟩
     ·
      have hm : xs[i] ∉ xs.take i := by simpa using hc26
      rw [if_neg hm] at hrk
      refine aC (aQ ?_)
      refine ae (hK9 _ _ ?_)
      refine aj (aa O O O (aL O O O O (by omega) (by omega)) ?_)
      refine aa O O O (af O O) (ai ?_)
      refine ae ?_
      exact bd (i + 1) [] ⟨by omega, by rw [← hrk, List.take_succ_eq_append_getElem hlt]⟩ (show xs.length - (i + 1) < xs.length - i by omega) ⟨rfl, rfl, rfl, rfl, trivial⟩ O rfl
   ·
    have hie : i = xs.length := by simp at hc13; omega
    subst hie
    rw [List.drop_length] at hrk
    refine aU (aI ?_)
    refine aI (aV ?_)
    refine ae (hK5 _ _ ?_)
    refine ah fun K17 hK17 => aj (aa O O O (af O O) ?_)
    refine aa O O O (ak O O) (aa O O O (ak O O) ?_)
    refine ai (ae ?_)
    refine hK17 _ _ (aw av (ar O (.cons (.tmp O) (.cons (.tmp O) .nil)) O) (fun w' hM' hK' => ?_))
    exact ⟨by rw [listErr, if_neg hgt, ← hrk]; rfl, hK'⟩

theorem join_c (xs : List (List UInt8)) (sep : List UInt8) (a : Option Addr) (len cap : Nat) (hcap : len ≤ cap) (hlen : (Lib.join xs sep).length ≤ 100000000) (hx : xs.length ≤ 1000000) (w : World) (hR : RC 1 w a len (xs.map str)) :
  Calls Tryz.prog 29 [.slice a len cap, str sep].toArray w fun e w' => e = .returned (str (Lib.join xs sep)) ∧ Keeps none1 w w' := by
 obtain ⟨h1, h2, h3⟩ := hR
 have hl : xs.length = len := by simpa using h1
 have hmap : (xs.map fun x => (⟨x.toArray⟩ : ByteArray)).map (·.data.toList) = xs := by rw [List.map_map]; exact List.map_id'' (fun x => rfl) xs
 rcases h3 with h3 | ⟨b, off, rfl, hb, hc⟩
 ·
  subst h3
  have hx0 : xs = [] := List.eq_nil_of_length_eq_zero hl
  subst hx0
  exact (Tryz.strings_Join_none a cap ⟨sep.toArray⟩ w).mono fun e w' ⟨he, hw⟩ => ⟨by rw [he]; rfl, hw ▸ Keeps.refl _ _⟩
 ·
  subst hl
  have := Tryz.strings_Join b off cap (xs.map fun x => (⟨x.toArray⟩ : ByteArray)) ⟨sep.toArray⟩ w (fun j x hj => hc j _ (by
   rw [List.getElem?_map] at hj ⊢
   cases hxj : xs[j]? with
   | none => rw [hxj] at hj; cases hj
   | some y => rw [hxj] at hj; cases hj; rfl)) hb (by simp; omega) (by simpa using hcap) (by rw [hmap]; show (Lib.join xs sep).length ≤ _; omega)
  rw [hmap, List.length_map] at this
  exact this.mono fun e w' ⟨he, hw⟩ => ⟨he, Keeps.of_below hw⟩

def fmtErr (xs : List (List UInt8)) : Int := if xs = [] then 4 else listErr xs
theorem formatList_c (xs : List (List UInt8)) (a : Option Addr) (len cap : Nat) (hcap : len ≤ cap) (hb : ∀ x ∈ xs, x.length ≤ 100000000) (hlen : (Lib.join xs [44]).length ≤ 100000000) (hx : xs.length ≤ 1000000) (w : World) (hG : Glob w) (hR : RC 1 w a len (xs.map str)) :
  Calls Tryz.prog 43 [.slice a len cap].toArray w fun e w' => e = .returned (.tuple #[str (if fmtErr xs = 0 then Lib.join xs [44] else []), .int .i64 (fmtErr xs)]) ∧ Keeps none1 w w' := by
 have hl : xs.length = len := by simpa using hR.1
 have hjn : Lib.join ([] : List (List UInt8)) [44] = [] := rfl
 by_cases hle : listErr xs = 0
 ·
  refine aJ (n := 17) (W := SL.none1) (m := []) Tryz.func43 O Tryz.ntmps43 O (aO _ _ _) ?_
  simp only [SL.enum, Nat.reduceAdd]
  refine ah fun K1 hK1 => aj (aa O O O (ak O O) ?_)
  refine aa O O O (ak O O) (ai ?_)
  refine ae (hK1 _ _ ?_)
  refine ah fun K2 hK2 => ah fun K3 hK3 => aj (aa O O O (af O O) ?_)
  refine aa O O O (bw O O O Tryz.underlying23) (aa O O O (bt O O O) ?_)
  refine ai (ae ?_)
  refine hK3 _ _ (aH O (fun hc8 => ?_) (fun hc8 => ?_))
  ·
   have he : xs = [] := by simp at hc8; exact List.eq_nil_of_length_eq_zero (by omega)
   refine ah fun K4 hK4 => aj (aa O O O (ak O O) ?_)
   refine aa O O O (ak O O) (ai ?_)
   refine ae (hK4 _ _ ?_)
   refine aw (aB av) (ar O (.cons (.tmp O) (.cons (.tmp O) .nil)) O) (fun w' hM' hK' => ?_)
   exact ⟨by rw [fmtErr, if_pos he]; rfl, hK'⟩
  ·
   have he : ¬ xs = [] := by intro h; subst h; simp at hl hc8; omega
   refine aC (ae ?_)
   refine hK2 _ _ (ah fun K5 hK5 => ?_)
   refine aj (aa O O O (af O O) ?_)
   refine am O (aN O O (by kernel_rfl) O O (fun w hM hK => glist_c xs a len cap hcap hb w (hG.keep hK) (hR.keep hK))) ?_
   intro _ _
   try simp only [setN, putD, selM, nth, cw, cx]
   refine aa O O O (af O O) (aa O O O (aW O O O) ?_)
   refine aa O O O (aW O O O) (aa O O O (ak O O) ?_)
   refine aa O O O (ak O O) (ai ?_)
   rw [if_pos hle]
   refine ae (hK5 _ _ ?_)
   refine ah fun K6 hK6 => aj (aa O O O (af O O) ?_)
   refine am O (aN O O (by kernel_rfl) O O (fun w hM hK => join_c xs [44] a len cap hcap hlen hx w (hR.keep hK))) ?_
   intro _ _
   try simp only [setN, putD, selM, nth, cw, cx]
   refine aa O O O (af O O) (aa O O O (ak O O) ?_)
   refine aa O O O (ak O O) (ai ?_)
   refine ae (hK6 _ _ ?_)
   refine aw av (ar O (.cons (.tmp O) (.cons (.tmp O) .nil)) O) (fun w' hM' hK' => ?_)
   exact ⟨by rw [fmtErr, if_neg he, if_pos hle]; rfl, hK'⟩
 ·
  refine aJ (n := 17) (W := SL.none1) (m := []) Tryz.func43 O Tryz.ntmps43 O (aO _ _ _) ?_
  simp only [SL.enum, Nat.reduceAdd]
  refine ah fun K1 hK1 => aj (aa O O O (ak O O) ?_)
  refine aa O O O (ak O O) (ai ?_)
  refine ae (hK1 _ _ ?_)
  refine ah fun K2 hK2 => ah fun K3 hK3 => aj (aa O O O (af O O) ?_)
  refine aa O O O (bw O O O Tryz.underlying23) (aa O O O (bt O O O) ?_)
  refine ai (ae ?_)
  refine hK3 _ _ (aH O (fun hc8 => ?_) (fun hc8 => ?_))
  ·
   have he : xs = [] := by simp at hc8; exact List.eq_nil_of_length_eq_zero (by omega)
   refine ah fun K4 hK4 => aj (aa O O O (ak O O) ?_)
   refine aa O O O (ak O O) (ai ?_)
   refine ae (hK4 _ _ ?_)
   refine aw (aB av) (ar O (.cons (.tmp O) (.cons (.tmp O) .nil)) O) (fun w' hM' hK' => ?_)
   exact ⟨by rw [fmtErr, if_pos he]; rfl, hK'⟩
  ·
   have he : ¬ xs = [] := by intro h; subst h; simp at hl hc8; omega
   refine aC (ae ?_)
   refine hK2 _ _ (ah fun K5 hK5 => ?_)
   refine aj (aa O O O (af O O) ?_)
   refine am O (aN O O (by kernel_rfl) O O (fun w hM hK => glist_c xs a len cap hcap hb w (hG.keep hK) (hR.keep hK))) ?_
   intro _ _
   try simp only [setN, putD, selM, nth, cw, cx]
   refine aa O O O (af O O) (aa O O O (aW O O O) ?_)
   refine aa O O O (aW O O O) (aa O O O (ak O O) ?_)
   refine aa O O O (ak O O) (ai ?_)
   rw [if_neg hle]
   refine ae (hK5 _ _ ?_)
   refine ah fun K6 hK6 => aj (aa O O O (af O O) ?_)
   refine am O (aN O O (by kernel_rfl) O O (fun w hM hK => join_c [] [44] none 0 0 (Nat.le_refl _) (by rw [hjn]; decide) (by decide) w (RC.nil 1 w none))) ?_
   intro _ _
   try simp only [setN, putD, selM, nth, cw, cx]
   refine aa O O O (af O O) (aa O O O (ak O O) ?_)
   refine aa O O O (ak O O) (ai ?_)
   refine ae (hK6 _ _ ?_)
   refine aw av (ar O (.cons (.tmp O) (.cons (.tmp O) .nil)) O) (fun w' hM' hK' => ?_)
   exact ⟨by rw [fmtErr, if_neg he, if_neg hle]; rfl, hK'⟩
end Go.Proofs.YthfhhkanpnemcaaGreatDoor
namespace Go.Proofs.YthfhhkanpnemcaaGreatDoor
open Go.SL Go.RowKit IntWalk
set_option linter.unusedVariables false
set_option maxRecDepth 100000
set_option linter.unusedSimpArgs false
set_option maxHeartbeats 400000

def runesF : Nat → List UInt8 → Nat → List (Nat × Int)
 | 0, _, _ => []
 | _ + 1, [], _ => []
 | k + 1, c :: t, at_ => match firstM (c :: t) with
  | some (r, n) => (at_, r) :: runesF k ((c :: t).drop n) (at_ + n)
  | none => []
def runes (s : List UInt8) : List (Nat × Int) := runesF s.length s 0
abbrev rnV (p : Nat × Int) : List Value := [.int .i64 (p.1 : Int), .int .i32 p.2]
abbrev strO (s : List UInt8) : Obj := .cells (flat [Seg.one (str s) rfl]) 9 (0, 0)
theorem runesF_some {k : Nat} {s : List UInt8} {a n : Nat} {r : Int} (hs : s ≠ []) (h : firstM s = some (r, n)) : runesF (k + 1) s a = (a, r) :: runesF k (s.drop n) (a + n) := by
 cases s with
 | nil => exact absurd rfl hs
 | cons c t => rw [runesF, h]
theorem runesF_none {k : Nat} {s : List UInt8} {a : Nat} (h : s ≠ [] → firstM s = none) : runesF k s a = [] := by
 cases k with
 | zero => rfl
 | succ k =>
  cases s with
  | nil => rfl
  | cons c t => rw [runesF, h (by simp)]

theorem runes_iter (s : List UInt8) (hl : s.length ≤ 1000000) (bs : Nat) (w0 : World) (hb : w0.heap[bs]? = some (strO s)) : Iter Tryz.prog 105 [.pointer (some ⟨bs, 0, none⟩)] (blocksOf [.blk bs (strO s)]) ((runes s).map rnV) w0 := by
 intro lr J Jx W hW hJ hJx hY h0
 have hB : blocksOf [.blk bs (strO s)] bs := ⟨_, List.mem_singleton.2 rfl, rfl⟩
 have hbW : W.heap[bs]? = some (strO s) := by rw [hW.block bs (Array.getElem?_eq_some_iff.1 hb).1 (fun h => h hB)]; exact hb
 have hmW : Mem (blocksOf [.blk bs (strO s)]) W [.blk bs (strO s)] W := ⟨by simpa [Res.holds] using hbW, fun r hr k hk => .inr ⟨r, hr, hk⟩, by simp⟩
 refine callsI (ro := none) (SL.calls_okM (n := 31) (W := (blocksOf [.blk bs (strO s)])) (m := [.blk bs (strO s)]) Tryz.func105 O Tryz.ntmps105 O hmW ?_)
 simp only [SL.enum, Nat.reduceAdd]
 refine bA fun K1 hK1 => bE (aS O (by intro _ h; cases h) O O (ak O O) ?_)
 refine bC (bi ?_)
 refine hK1 _ _ _ _ _ (SL.Ok.blockI ?_)
 refine SL.Ok.loopR (X := (Nat × Nat × Nat)) (fun X => X.2.1 ≤ s.length ∧ s.length - X.2.1 ≤ X.2.2 ∧ X.1 ≤ (runes s).length ∧ runesF X.2.2 (s.drop X.2.1) X.2.1 = (runes s).drop X.1) (fun X => [(0, .func (.yield lr) #[] #[]), (1, .pointer (some ⟨bs, 0, none⟩)), (3, .int .i64 (X.2.1 : Int))]) (fun _ => [.blk bs (strO s)]) (fun X w => J X.1 w) (fun X => s.length - X.2.1) ?_ ?_
 ·
  exact fun a w st => ⟨(0, 0, s.length), ⟨Nat.zero_le _, Nat.le_refl _, Nat.zero_le _, rfl⟩, st.has.sub ⟨rfl, rfl, rfl, trivial⟩, st.mem.own, hJ 0 W w h0 st.keeps⟩
 ·
  intro ⟨i, at_, k⟩ ⟨hat, hk, hi, hrn⟩ wS hMS hJS
  try dsimp only
  dsimp only at hat hk hi hrn hJS
  refine bA fun K2 hK2 => bA fun K3 hK3 => bE (aS O (by intro _ h; cases h) O O (af O O) ?_)
  refine aS O (by intro _ h; cases h) O O (by first | exact al 0 O O O O (by kernel_rfl)) ?_
  refine aS O (by intro _ h; cases h) O O (bf O O O Tryz.underlying9) ?_
  refine aS O (by intro _ h; cases h) O O (aT O O O) ?_
  refine bC (bi ?_)
  refine hK3 _ _ _ _ _ (SL.Ok.condI O (fun hc10 => ?_) (fun hc10 => ?_))
  ·
   have hlt : at_ < s.length := by simp at hc10; omega
   have hne : s.drop at_ ≠ [] := by intro h; have := congrArg List.length h; simp at this; omega
   obtain ⟨k, rfl⟩ : ∃ k', k = k' + 1 := ⟨k - 1, by omega⟩
   refine SL.Ok.skipI' (bi ?_)
   refine hK2 _ _ _ _ _ (SL.Ok.blockI ?_)
   refine bA fun K4 hK4 => bE (aS O (by intro _ h; cases h) O O (by first | exact al 0 O O O O (by kernel_rfl)) ?_)
   refine aS O (by intro _ h; cases h) O O (af O O) ?_
   refine aS O (by intro _ h; cases h) O O (SL.Pure.sliceSTo (r := s.drop at_) O O Tryz.underlying9 O O (by omega) (by omega) (by omega) (by simp)) ?_
   refine bP O (co O O (by kernel_rfl) O) (fun _ => (aM [] [0] O O (by kernel_rfl) O O O O (fun w hM hK => first_c (s.drop at_) hne (by simp; omega) w))) ?_
   intro ⟨r, nn, er⟩ hf
   try simp only [setN, putD, selM, nth, cw, cx]
   unfold fok at hf
   refine aS O (by intro _ h; cases h) O O (af O O) ?_
   refine aS O (by intro _ h; cases h) O O (aW O O O) ?_
   refine aS O (by intro _ h; cases h) O O (aW O O O) ?_
   refine aS O (by intro _ h; cases h) O O (aW O O O) ?_
   refine aS O (by intro _ h; cases h) O O (ak O O) ?_
   refine aS O (by intro _ h; cases h) O O (ak O O) ?_
   refine aS O (by intro _ h; cases h) O O (ak O O) ?_
   refine bC (bi ?_)
   refine hK4 _ _ _ _ _ (bA fun K5 hK5 => ?_)
   refine bA fun K6 hK6 => bE (aS O (by intro _ h; cases h) O O (af O O) ?_)
   refine aS O (by intro _ h; cases h) O O (bl O O O) ?_
   refine aS O (by intro _ h; cases h) O O (af O O) ?_
   refine aR (d := 21) O (fun hg21 => ?_) (fun hg21 => ?_)
   ·
    have her : ¬ er = 0 := by simpa using hg21
    have hno : firstM (s.drop at_) = none := by
     cases hm : firstM (s.drop at_) with
     | none => rfl
     | some p => rw [hm] at hf; obtain ⟨r', n'⟩ := p; simp only [Prod.mk.injEq] at hf; exact absurd hf.2.2 her
    have hnil : runesF (k + 1) (s.drop at_) at_ = [] := runesF_none (fun _ => hno)
    have hdone : i = ((runes s).map rnV).length := by
     rw [hnil] at hrn
     have := congrArg List.length hrn
     simp at this ⊢; omega
    refine SL.Ok.opSI O O O O O O O (SL.Ok.opSI O O O O O O O ?_)
    refine SL.Ok.opSI O O O O O O O (SL.Ok.opSI O O O O O O O ?_)
    refine SL.Ok.opSI O O O O O O O (aS O (by intro _ h; cases h) O O (aF O O O) ?_)
    refine bC (bi ?_)
    refine hK6 _ _ _ _ _ (SL.Ok.condIT O ?_)
    refine SL.Ok.retI0 (aB (aP (aB (aP av)))) (ar O .nil O) (fun w' hM' hK' => ?_)
    exact ⟨⟨_, rfl⟩, .inl (hdone ▸ hJ _ _ _ hJS hK')⟩
   ·
    have her : er = 0 := by simpa using hg21
    subst her
    obtain ⟨n, hm, rfl⟩ : ∃ n : Nat, firstM (s.drop at_) = some (r, n) ∧ nn = n := by
     cases hm : firstM (s.drop at_) with
     | none => rw [hm] at hf; exact absurd rfl hf
     | some p => rw [hm] at hf; obtain ⟨r', n'⟩ := p; simp only [Prod.mk.injEq] at hf; obtain ⟨rfl, rfl, _⟩ := hf; exact ⟨n', rfl, rfl⟩
    have hn := firstM_n hm
    rw [List.length_drop] at hn
    rw [runesF_some hne hm] at hrn
    have hxi : (runes s)[i]? = some (at_, r) := by
     have := congrArg (·[0]?) hrn
     simp only [List.getElem?_cons_zero, List.getElem?_drop, Nat.add_zero] at this
     exact this.symm
    have hrn' : runesF k (s.drop (at_ + n)) (at_ + n) = (runes s).drop (i + 1) := by
     have := congrArg List.tail hrn
     simpa [List.drop_drop, Nat.add_comm] using this
    have hil : i < (runes s).length := (List.getElem?_eq_some_iff.1 hxi).1
    refine SL.Ok.opGI O O O O O (by intro _ h; cases h) O O (af O O) ?_
    refine SL.Ok.opGI O O O O O (by intro _ h; cases h) O O (af O O) ?_
    refine SL.Ok.opGI O O O O O (by intro _ h; cases h) O O (af O O) ?_
    refine SL.Ok.yieldGI (G := fun v w' => ∃ b : Bool, v = .bool b ∧ (b = true → J (i + 1) w') ∧ (b = false → Jx w') ∧ Mem (blocksOf [.blk bs (strO s)]) w' [.blk bs (strO s)] w') (W2 := blocksOf [.blk bs (strO s)]) (m2 := [.blk bs (strO s)]) O O O O O O O O O O (fun w' hM hK => ?_) (fun v w' ⟨b, _, _, _, h⟩ => h) ?_
    ·
     refine (hY i (rnV (at_, r)) w' (by rw [List.getElem?_map, hxi]; rfl) (hJ i _ _ hJS hK)).mono ?_
     have hkeep : ∀ W', Keeps (fun k => ¬ blocksOf [.blk bs (strO s)] k) w' W' → Mem (blocksOf [.blk bs (strO s)]) W' [.blk bs (strO s)] W' := fun W' hk => by
      have hb1 : w'.heap[bs]? = some (strO s) := SL.Mem.blk (i := 0) rfl hM
      have hb2 : W'.heap[bs]? = some (strO s) := by rw [hk.block bs (Array.getElem?_eq_some_iff.1 hb1).1 (fun h => h hB)]; exact hb1
      exact ⟨by simpa [Res.holds] using hb2, fun r hr k hk => .inr ⟨r, hr, hk⟩, by simp⟩
     rintro e W' (⟨rfl, hj, hk⟩ | ⟨rfl, hj, hk⟩)
     ·
      exact ⟨_, rfl, true, rfl, fun _ => hj, (fun h => by cases h), hkeep W' hk⟩
     ·
      exact ⟨_, rfl, false, rfl, (fun h => by cases h), fun _ => hj, hkeep W' hk⟩
    rintro v wY ⟨b, rfl, hbT, hbF, hmY⟩
    refine SL.Ok.opGI O O O O O (by intro _ h; cases h) O O (bM O O) ?_
    refine aS O (by intro _ h; cases h) O O (aE O O O) ?_
    refine bC (bi ?_)
    refine hK6 _ _ _ _ _ (SL.Ok.condI O (fun hc27 => ?_) (fun hc27 => ?_))
    ·
     have hb0 : b = false := by simpa using hc27
     refine SL.Ok.retI0 (aB (aP (aB (aP av)))) (ar O .nil O) (fun w' hM' hK' => ?_)
     exact ⟨⟨_, rfl⟩, .inr (hJx _ _ (hbF hb0) hK')⟩
    ·
     have hb1 : b = true := by simpa using hc27
     refine SL.Ok.skipI' (bi ?_)
     refine hK5 _ _ _ _ _ (bE ?_)
     refine aS O (by intro _ h; cases h) O O (af O O) ?_
     refine aS O (by intro _ h; cases h) O O (af O O) ?_
     refine aS O (by intro _ h; cases h) O O (aL O O O O (by omega) (by omega)) ?_
     refine aS O (by intro _ h; cases h) O O (ak O O) ?_
     refine bC (SL.Ok.normBlockI ?_)
     refine bi ?_
     exact SL.Ok.roundR (i + 1, at_ + n, k) [0] ⟨show at_ + n ≤ s.length by omega, show s.length - (at_ + n) ≤ k by omega, hil, hrn'⟩ (show s.length - (at_ + n) < s.length - at_ by omega) ⟨rfl, rfl, rfl, trivial⟩ O O (fun w' hM hK => hJ (i + 1) _ _ (hbT hb1) hK)
  ·
   have hge : at_ = s.length := by simp at hc10; omega
   have hnil : runesF k (s.drop at_) at_ = [] := runesF_none (fun h => absurd (by rw [hge, List.drop_length]) h)
   have hdone : i = ((runes s).map rnV).length := by
    rw [hnil] at hrn
    have := congrArg List.length hrn
    simp at this ⊢; omega
   refine SL.Ok.exitI (SL.Ok.exThenI ?_)
   refine SL.Ok.exThenI (SL.Ok.exHereI ?_)
   refine SL.Ok.finI0 (fun _ _ h => h) (ar O .nil O) (fun w' hM' hK' => ?_)
   exact ⟨⟨_, rfl⟩, .inl (hdone ▸ hJ _ _ _ hJS hK')⟩
end Go.Proofs.YthfhhkanpnemcaaGreatDoor
namespace Go.Proofs.YthfhhkanpnemcaaGreatDoor
open Go.SL Go.RowKit IntWalk
set_option linter.unusedVariables false
set_option maxRecDepth 100000
set_option linter.unusedSimpArgs false
set_option maxHeartbeats 400000

theorem runes_c (s : List UInt8) (w : World) : Calls Tryz.prog 82 [str s].toArray w fun e w' => ∃ b : Nat, True ∧ e = .returned (.func (.func 105) #[] [.pointer (some ⟨b, 0, none⟩)].toArray) ∧ Post w (blocksOf []) [.blk b (strO s)] w' := by
 refine aJ (n := 4) (W := (blocksOf [])) (m := []) Tryz.func82 O Tryz.ntmps82 O (aO _ _ _) ?_
 simp only [SL.enum, Nat.reduceAdd]
 refine ah fun K1 hK1 => aj (am O (bh [SL.Seg.one _ rfl] O O O O O) ?_)
 intro b1 _
 try simp only [setN, putD, selM, nth, cw, cx]
 refine aa O O O (ak O O) (ai ?_)
 refine ae (hK1 _ _ ?_)
 refine ah fun K2 hK2 => aj (aa O O O (SL.Pure.makeFuncC O O) ?_)
 refine aa O O O (ak O O) (ai ?_)
 refine ae (hK2 _ _ ?_)
 refine aw av (ar O (.cons (.tmp O) .nil) O) (fun w' hM' hK' => ?_)
 exact ⟨b1, trivial, rfl, hK', hM'.sel [0] rfl⟩

def sec : List Value → Value
 | [_, v] => v
 | _ => undef
def fst1 : List Value → Value
 | [v, _] => v
 | _ => undef
theorem rnV_len (s : List UInt8) : ∀ x ∈ (runes s).map rnV, x.length = [10, 11].length := by
 intro x hx
 obtain ⟨p, _, rfl⟩ := List.mem_map.1 hx
 rfl
abbrev boolO (b : Bool) : Obj := .cells (flat [Seg.one (.bool b) rfl]) 4 (0, 0)

def noCtl (s : List UInt8) : Bool := (runes s).all fun p => !ctl p.2
def prn (s : List UInt8) : Bool := valid s && noCtl s
theorem all_take {α : Type} {f : α → Bool} {l : List α} {i : Nat} {x : α} (h : (l.take i).all f = true) (hx : l[i]? = some x) (hf : f x = true) : (l.take (i + 1)).all f = true := by
 have hi := (List.getElem?_eq_some_iff.1 hx).1
 have he := (List.getElem?_eq_some_iff.1 hx).2
 rw [List.take_succ_eq_append_getElem hi, List.all_append, h, he]
 simp [hf]
theorem all_bad {α : Type} {f : α → Bool} {l : List α} {i : Nat} {x : α} (hx : l[i]? = some x) (hf : f x = false) : l.all f = false := by
 rw [Bool.eq_false_iff]
 intro h
 have := List.all_eq_true.1 h x (List.mem_of_getElem? hx)
 rw [hf] at this; cases this

theorem printable_c (s : List UInt8) (hl : s.length ≤ 1000000) (w : World) : Calls Tryz.prog 63 [str s].toArray w fun e w' => e = .returned (.bool (prn s)) ∧ Keeps none1 w w' := by
 refine SL.calls_okM (n := 14) (W := SL.none1) (m := []) Tryz.func63 O Tryz.ntmps63 O (aO _ _ _) ?_
 simp only [SL.enum, Nat.reduceAdd]
 refine bA fun K1 hK1 => bE (bP O (SL.ND.alloc O) (fun _ => (aX [Seg.one (.bool false) rfl] O O O (by kernel_rfl))) ?_)
 intro b2 _
 try simp only [setN, putD, selM, nth, cw, cx]
 refine bC (bi ?_)
 refine hK1 _ _ _ _ _ (bA fun K2 hK2 => ?_)
 refine bA fun K3 hK3 => bE (aS O (by intro _ h; cases h) O O (af O O) ?_)
 refine bP O (co O O (by kernel_rfl) O) (fun _ => (aN O O (by kernel_rfl) O O (fun w hM hK => uvalid_c s hl w))) ?_
 intro _ _
 try simp only [setN, putD, selM, nth, cw, cx]
 refine aS O (by intro _ h; cases h) O O (bM O O) ?_
 refine bC (bi ?_)
 refine hK3 _ _ _ _ _ (SL.Ok.condI O (fun hc7 => ?_) (fun hc7 => ?_))
 ·
  have hv : valid s = false := by simpa using hc7
  refine bA fun K4 hK4 => bE (bP O (SL.ND.store O) (fun _ => (by first | exact ap (k := 1) 0 [SL.Seg.one _ rfl] O O O O O O (by kernel_rfl) O O)) ?_)
  intro _ _
  try simp only [setN, putD, selM, nth, cw, cx]
  refine bC (bi ?_)
  refine hK4 _ _ _ _ _ (SL.Ok.retI0 (aB av) (ar O (.cons (by first | exact SL.RV.cell1 0 O O O (by kernel_rfl)) .nil) O) (fun w' hM' hK' => ?_))
  exact ⟨by rw [prn, hv]; rfl, hK'⟩
 ·
  have hv : valid s = true := by simpa using hc7
  refine SL.Ok.skipI' (bi ?_)
  refine hK2 _ _ _ _ _ (bA fun K5 hK5 => ?_)
  refine bA fun K6 hK6 => bE (aS O (by intro _ h; cases h) O O (af O O) ?_)
  refine bP O (co O O (by kernel_rfl) O) (fun _ => (aM [] [0] O O (by kernel_rfl) O O O O (fun w hM hK => runes_c s w))) ?_
  intro b9 _
  try simp only [setN, putD, selM, nth, cw, cx]
  refine bC (bi ?_)
  refine hK6 _ _ _ _ _ (SL.Ok.blockI ?_)
  refine SL.Ok.rangeFunc (ps := [10, 11]) (xs := ((runes s).map rnV)) (X := Unit) (Y := Unit) [1] [0] [] O (by kernel_rfl) O O O O (fun w hM hK => runes_iter s hl b9 w (SL.Mem.blk (i := 0) O hM)) (rnV_len s) O (fun i _ => ((runes s).take i).all (fun p => !ctl p.2) = true) (fun _ => [.blk b2 (boolO false)]) () O O (fun _ => noCtl s = false) (fun _ => [.blk b2 (boolO false)]) (fun x => [(4, sec x), (2, .pointer (some ⟨b2, 0, none⟩))]) ?_ ?_ ?_ ?_
  ·
   intro lr x hx w K hK
   obtain ⟨p, _, rfl⟩ := List.mem_map.1 hx
   refine bE (aS O (by intro _ h; cases h) O O (ak O O) ?_)
   refine bC (bi ?_)
   exact bI hK [] ⟨rfl, rfl, trivial⟩ O rfl
  ·
   intro lr i x z hx hz wS hK0 hMS
   obtain ⟨p, hp, rfl⟩ : ∃ p, (runes s)[i]? = some p ∧ rnV p = x := by
    rw [List.getElem?_map] at hx
    cases h : (runes s)[i]? with
    | none => rw [h] at hx; cases hx
    | some p => rw [h] at hx; exact ⟨p, rfl, Option.some.inj hx⟩
   refine SL.Ok.blockI (bA fun K7 hK7 => ?_)
   refine bE (aS O (by intro _ h; cases h) O O (af O O) ?_)
   refine bP O (co O O (by kernel_rfl) O) (fun _ => (aN O O (by kernel_rfl) O O (fun w hM hK => ucontrol_c p.2 w))) ?_
   intro _ _
   try simp only [setN, putD, selM, nth, cw, cx]
   refine bC (bi ?_)
   refine hK7 _ _ _ _ _ (SL.Ok.condI O (fun hc13 => ?_) (fun hc13 => ?_))
   ·
    have hb : ctl p.2 = true := by simpa using hc13
    refine bA fun K8 hK8 => bE (bP O (SL.ND.store O) (fun _ => (by first | exact ap (k := 1) 0 [SL.Seg.one _ rfl] O O O O O O (by kernel_rfl) O O)) ?_)
    intro _ _
    try simp only [setN, putD, selM, nth, cw, cx]
    refine bC (bi ?_)
    refine hK8 _ _ _ _ _ (SL.Ok.retGoI ?_)
    refine SL.Ok.rtBlockI ?_
    exact SL.Ok.rndRet () [0] (all_bad hp (by rw [hb]; rfl)) O rfl
   ·
    have hb : ctl p.2 = false := by simpa using hc13
    refine SL.Ok.skipI' (SL.Ok.normBlockI ?_)
    exact SL.Ok.rndGo () [0] (all_take hz hp (by rw [hb]; rfl)) O rfl
  ·
   intro D z hz
   try dsimp only
   simp only [SL.selM, SL.nth, List.cons_append, List.nil_append, List.append_nil]
   have hall : noCtl s = true := by rw [List.length_map, List.take_length] at hz; exact hz
   refine SL.Ok.normBlockI (bi ?_)
   refine hK5 _ _ _ _ _ (bA fun K9 hK9 => ?_)
   refine bE (bP O (SL.ND.store O) (fun _ => (by first | exact ap (k := 1) 0 [SL.Seg.one _ rfl] O O O O O O (by kernel_rfl) O O | exact ap (k := 1) 1 [SL.Seg.one _ rfl] O O O O O O (by kernel_rfl) O O)) ?_)
   intro _ _
   try simp only [setN, putD, selM, nth, cw, cx]
   refine bC (bi ?_)
   refine hK9 _ _ _ _ _ (SL.Ok.retDI 0 O av (ar O (.cons (by first | exact SL.RV.cell1 0 O O O (by kernel_rfl) | exact SL.RV.cell1 1 O O O (by kernel_rfl)) .nil) O) (fun w' hM' hK' => ?_))
   exact ⟨by rw [prn, hv, hall]; rfl, hK'⟩
  ·
   intro D y hy
   try dsimp only
   simp only [SL.selM, SL.nth, List.cons_append, List.nil_append, List.append_nil]
   refine SL.Ok.retDI 0 O (aP (aB av)) (ar O (.cons (by first | exact SL.RV.cell1 0 O O O (by kernel_rfl) | exact SL.RV.cell1 1 O O O (by kernel_rfl)) .nil) O) (fun w' hM' hK' => ?_)
   exact ⟨by rw [prn, hy, Bool.and_false]; rfl, hK'⟩
end Go.Proofs.YthfhhkanpnemcaaGreatDoor
namespace Go.SL
open Go.RowKit
section
variable {P : Program} {n : Nat} {W : Nat → Prop} {w0 : World} {l : List (Nat × Value)} {m : List Res} {Q : Exit → Act → World → Prop} {o : Oper}
theorem Eff.makeBytes {t e : TypeId} {x y : Operand} {d : Nat} (k : Nat) (ho : o.op = .makeSlice t x y) (hx : ev l x = some (.int .i64 k)) (hy : ev l y = some (.int .i64 k)) (ht : P.underlying t = some (.slice e)) (hb : (P.info? e).map (fun i => (i.bytes, i.size, i.zero)) = some (1, 1, some (.int .u8 0)))
  (h0 : 0 < k) (h24 : k ≤ 1024) (hd : o.dst = some d) (hdn : Nat.ble (d + 1) n = true) :
  Eff P n W w0 l m o Q Nat (fun _ => True) (fun g => (d, .slice (some ⟨g, 0, none⟩) k k) :: l) (fun g => .blk g (.cells (flat [(B.zero k).seg]) e (0, 0)) :: m) := by
 intro a w K st h
 obtain ⟨i, hi, hi2⟩ : ∃ i, P.info? e = some i ∧ (i.bytes, i.size, i.zero) = (1, 1, some (.int .u8 0)) := by
  cases hi : P.info? e with
  | none => rw [hi] at hb; cases hb
  | some i => rw [hi] at hb; exact ⟨i, rfl, Option.some.inj hb⟩
 simp only [Prod.mk.injEq] at hi2
 obtain ⟨hb1, hs1, hz1⟩ := hi2
 have hrow : (Array.range k).map (fun j => (#[Value.int .u8 0] : Array Value)[j % 1]!) = flat [(B.zero k).seg] := by
  apply Array.ext'
  simp [flat, B.zero, B.seg, Seg.cs, byteA, Nat.mod_one]
  apply List.ext_getElem <;> simp
 have hw1 : IntKind.i64.wrap (k : Int) = k := by rw [IntKind.wrap_i64]; omega
 have hr : (execOp a.eval o).run P w = .ok (.value (.slice (some ⟨w.heap.size, 0, none⟩) k k)) (w.alloc (.cells (flat [(B.zero k).seg]) e (0, 0))) := by
  have h1 : ¬ (k : Int) < 0 := by omega
  have h2 : ¬ ((1 : Nat) : Int) * (k : Int) > 2 ^ 48 := by omega
  have h3 : ¬ k = 0 := by omega
  have hroom : ¬ (k * 1 > roomBytes) := by unfold roomBytes; omega
  rw [← hrow]
  simp [execOp, ho, st.has.ev hx, st.has.ev hy, Instr.makeSlice, run_underlying ht, asInt, asIntOf, typeInfo, hi, hb1, hs1, hz1, hw1, h1, h2, h3, askRoom, hroom, sizeOf, zeroValue, newRow, Value.cells]
  intro hh; omega
 unfold Oper.wp
 rw [hr, Oper.upon_value, hd]
 refine h w.heap.size trivial _ _ ⟨st.has.put _ hdn, ?_, st.keeps.trans (Keeps.alloc W w _)⟩
 exact st.mem.cons_new (Keeps.alloc none1 w _) st.keeps.size (heap_alloc_new w _) (fun k hk => by simp [Res.block] at hk; omega)
end
end Go.SL
namespace Go.Proofs.YthfhhkanpnemcaaGreatDoor
open Go.SL Go.RowKit IntWalk
set_option linter.unusedVariables false
set_option maxRecDepth 100000
set_option linter.unusedSimpArgs false
set_option maxHeartbeats 400000

/-- a byte behind the first one, and a first byte -/
def tlB (x : Nat) : UInt8 := 128 ||| UInt8.ofNat (x % 64)
def hdB (low bits : UInt8) (x : Nat) : UInt8 := (low &&& ~~~ bits) ||| UInt8.ofNat x
def encM (r : Int) : List UInt8 :=
 if within 0 127 r then [hdB 0 127 r.toNat]
 else if within 128 2047 r then [hdB 194 31 (r.toNat / 64), tlB r.toNat]
 else if within 2048 65535 r then [hdB 224 15 (r.toNat / 64 / 64), tlB (r.toNat / 64), tlB r.toNat]
 else if within 65536 1114111 r then [hdB 240 7 (r.toNat / 64 / 64 / 64), tlB (r.toNat / 64 / 64), tlB (r.toNat / 64), tlB r.toNat]
 else []
def encE (r : Int) : Int := if encM r = [] then 2 else 0

theorem and63 (x : Nat) (hx : x < 2147483648) : IntKind.i32.wrap (BitVec.ofInt IntKind.i32.bits (x : Int) &&& BitVec.ofInt IntKind.i32.bits 63).toNat = ((x % 64 : Nat) : Int) := by
 have e : (BitVec.ofInt 32 (x : Int) &&& BitVec.ofInt 32 63).toNat = x % 64 := by
  have h1 : BitVec.ofInt 32 (63 : Int) = 63#32 := by decide
  rw [h1, BitVec.toNat_and, BitVec.toNat_ofInt]
  have h5 : (63#32).toNat = 2 ^ 6 - 1 := by decide
  rw [h5, Nat.and_two_pow_sub_one_eq_mod]
  omega
 show IntKind.i32.wrap ((BitVec.ofInt 32 (x : Int) &&& BitVec.ofInt 32 63).toNat : Int) = _
 rw [e, IntKind.wrap_i32]
 omega
theorem shr6N (x : Nat) : (Int.fdiv (x : Int) (2 ^ (min (Int.toNat 6) IntKind.i32.bits))) = ((x / 64 : Nat) : Int) := by
 have e3 : (2 : Int) ^ (min (Int.toNat 6) IntKind.i32.bits) = 64 := by simp [IntKind.bits]
 rw [e3, Int.fdiv_eq_ediv_of_nonneg _ (by decide)]
 rfl
theorem u8c (x : Nat) : IntKind.u8.wrap (x : Int) = ((UInt8.ofNat x).toNat : Int) := by rw [IntKind.wrap_u8, UInt8.toNat_ofNat']; omega

theorem encode1_c (r : Int) (w : World) : Calls Tryz.prog 93 [.int .i32 r].toArray w fun e w' => e = .returned (.tuple #[str (encM r), .int .i64 (encE r)]) ∧ Keeps none1 w w' := by
 refine aJ (n := 47) (W := SL.none1) (m := []) Tryz.func93 O Tryz.ntmps93 O (aO _ _ _) ?_
 simp only [SL.enum, Nat.reduceAdd]
 refine ah fun K1 hK1 => aj (aa O O O (ak O O) ?_)
 refine aa O O O (ak O O) (ai ?_)
 refine ae (hK1 _ _ ?_)
 refine ah fun K2 hK2 => ah fun K3 hK3 => aj (am O (aN O O (by kernel_rfl) O O (fun w hM hK => classes_c w)) ?_)
 intro _ _
 try simp only [setN, putD, selM, nth, cw, cx]
 refine aa O O O (af O O) (ai ?_)
 refine ae (hK3 _ _ ?_)
 refine aK (SL.Ok.loopN 5 ?_)
 refine bz (ah fun K4 hK4 => ?_)
 refine aj (aa O O O (aT O O O) ?_)
 refine ai (ae ?_)
 refine hK4 _ _ (ah fun K5 hK5 => ?_)
 refine bk O (aC ?_)
 refine ae (hK5 _ _ ?_)
 refine ah fun K6 hK6 => aK (ah fun K7 hK7 => ?_)
 refine aj (aa O O O (af O O) ?_)
 refine aa O O O (bY (sz := 5) (i := 0) O O O Tryz.underlying174 (by kernel_rfl) (by kernel_rfl) (by first | decide | omega) (by first | decide | omega) O) ?_
 refine am O (aX [Seg.one (.int .u8 0) rfl, Seg.one (.int .u8 0) rfl, Seg.one (.int .u8 0) rfl, Seg.one (.int .i32 0) rfl, Seg.one (.int .i32 0) rfl] O O O (by kernel_rfl)) ?_
 intro b5 _
 try simp only [setN, putD, selM, nth, cw, cx]
 refine aa O O O (ak O O) (am O (by first | exact ap (k := 5) 0 _ O O O O O O (by kernel_rfl) O O) ?_)
 intro _ _
 try simp only [setN, putD, selM, nth, cw, cx]
 refine ai (ae ?_)
 refine hK7 _ _ (ah fun K8 hK8 => ?_)
 refine ah fun K9 hK9 => aj (aa O O O (by first | exact ay 0 (k := 5) O O O (by kernel_rfl) O (by kernel_rfl)) ?_)
 refine aa O O O (af O O) (am O (aN O O (by kernel_rfl) O O (fun w hM hK => within_c _ _ _ _ _ _ w)) ?_)
 intro _ _
 try simp only [setN, putD, selM, nth, cw, cx]
 refine aa O O O (bM O O) (ai ?_)
 refine ae (hK9 _ _ ?_)
 refine aH O (fun hc16 => ?_) (fun hc16 => ?_)
 ·
  first
   | have h1 : within 0 127 r = false := by simpa using hc16
   | have h2 : within 128 2047 r = false := by simpa using hc16
   | have h3 : within 2048 65535 r = false := by simpa using hc16
   | have h4 : within 65536 1114111 r = false := by simpa using hc16
  refine aU (aI ?_)
  refine aV (ae ?_)
  refine hK6 _ _ (aj ?_)
  refine aa O O O (aL O O O O (by omega) (by omega)) ?_
  refine aa O O O (af O O) (ai ?_)
  refine ae (bz ?_)
  refine ah fun K10 hK10 => aj (aa O O O (aT O O O) ?_)
  refine ai (ae ?_)
  refine hK10 _ _ (ah fun K11 hK11 => ?_)
  refine bk O (aC ?_)
  refine ae (hK11 _ _ ?_)
  refine ah fun K12 hK12 => aK (ah fun K13 hK13 => ?_)
  refine aj (aa O O O (af O O) ?_)
  refine aa O O O (bY (sz := 5) (i := 1) O O O Tryz.underlying174 (by kernel_rfl) (by kernel_rfl) (by first | decide | omega) (by first | decide | omega) O) ?_
  refine am O (aX [Seg.one (.int .u8 0) rfl, Seg.one (.int .u8 0) rfl, Seg.one (.int .u8 0) rfl, Seg.one (.int .i32 0) rfl, Seg.one (.int .i32 0) rfl] O O O (by kernel_rfl)) ?_
  intro b5 _
  try simp only [setN, putD, selM, nth, cw, cx]
  refine aa O O O (ak O O) (am O (by first | exact ap (k := 5) 0 _ O O O O O O (by kernel_rfl) O O | exact ap (k := 5) 1 _ O O O O O O (by kernel_rfl) O O) ?_)
  intro _ _
  try simp only [setN, putD, selM, nth, cw, cx]
  refine ai (ae ?_)
  refine hK13 _ _ (ah fun K14 hK14 => ?_)
  refine ah fun K15 hK15 => aj (aa O O O (by first | exact ay 0 (k := 5) O O O (by kernel_rfl) O (by kernel_rfl) | exact ay 1 (k := 5) O O O (by kernel_rfl) O (by kernel_rfl)) ?_)
  refine aa O O O (af O O) (am O (aN O O (by kernel_rfl) O O (fun w hM hK => within_c _ _ _ _ _ _ w)) ?_)
  intro _ _
  try simp only [setN, putD, selM, nth, cw, cx]
  refine aa O O O (bM O O) (ai ?_)
  refine ae (hK15 _ _ ?_)
  refine aH O (fun hc16 => ?_) (fun hc16 => ?_)
  ·
   first
    | have h1 : within 0 127 r = false := by simpa using hc16
    | have h2 : within 128 2047 r = false := by simpa using hc16
    | have h3 : within 2048 65535 r = false := by simpa using hc16
    | have h4 : within 65536 1114111 r = false := by simpa using hc16
   refine aU (aI ?_)
   refine aV (ae ?_)
   refine hK12 _ _ (aj ?_)
   refine aa O O O (aL O O O O (by omega) (by omega)) ?_
   refine aa O O O (af O O) (ai ?_)
   refine ae (bz ?_)
   refine ah fun K16 hK16 => aj (aa O O O (aT O O O) ?_)
   refine ai (ae ?_)
   refine hK16 _ _ (ah fun K17 hK17 => ?_)
   refine bk O (aC ?_)
   refine ae (hK17 _ _ ?_)
   refine ah fun K18 hK18 => aK (ah fun K19 hK19 => ?_)
   refine aj (aa O O O (af O O) ?_)
   refine aa O O O (bY (sz := 5) (i := 2) O O O Tryz.underlying174 (by kernel_rfl) (by kernel_rfl) (by first | decide | omega) (by first | decide | omega) O) ?_
   refine am O (aX [Seg.one (.int .u8 0) rfl, Seg.one (.int .u8 0) rfl, Seg.one (.int .u8 0) rfl, Seg.one (.int .i32 0) rfl, Seg.one (.int .i32 0) rfl] O O O (by kernel_rfl)) ?_
   intro b5 _
   try simp only [setN, putD, selM, nth, cw, cx]
   refine aa O O O (ak O O) (am O (by first | exact ap (k := 5) 0 _ O O O O O O (by kernel_rfl) O O | exact ap (k := 5) 1 _ O O O O O O (by kernel_rfl) O O | exact ap (k := 5) 2 _ O O O O O O (by kernel_rfl) O O) ?_)
   intro _ _
   try simp only [setN, putD, selM, nth, cw, cx]
   refine ai (ae ?_)
   refine hK19 _ _ (ah fun K20 hK20 => ?_)
   refine ah fun K21 hK21 => aj (aa O O O (by first | exact ay 0 (k := 5) O O O (by kernel_rfl) O (by kernel_rfl) | exact ay 1 (k := 5) O O O (by kernel_rfl) O (by kernel_rfl) | exact ay 2 (k := 5) O O O (by kernel_rfl) O (by kernel_rfl)) ?_)
   refine aa O O O (af O O) (am O (aN O O (by kernel_rfl) O O (fun w hM hK => within_c _ _ _ _ _ _ w)) ?_)
   intro _ _
   try simp only [setN, putD, selM, nth, cw, cx]
   refine aa O O O (bM O O) (ai ?_)
   refine ae (hK21 _ _ ?_)
   refine aH O (fun hc16 => ?_) (fun hc16 => ?_)
   ·
    first
     | have h1 : within 0 127 r = false := by simpa using hc16
     | have h2 : within 128 2047 r = false := by simpa using hc16
     | have h3 : within 2048 65535 r = false := by simpa using hc16
     | have h4 : within 65536 1114111 r = false := by simpa using hc16
    refine aU (aI ?_)
    refine aV (ae ?_)
    refine hK18 _ _ (aj ?_)
    refine aa O O O (aL O O O O (by omega) (by omega)) ?_
    refine aa O O O (af O O) (ai ?_)
    refine ae (bz ?_)
    refine ah fun K22 hK22 => aj (aa O O O (aT O O O) ?_)
    refine ai (ae ?_)
    refine hK22 _ _ (ah fun K23 hK23 => ?_)
    refine bk O (aC ?_)
    refine ae (hK23 _ _ ?_)
    refine ah fun K24 hK24 => aK (ah fun K25 hK25 => ?_)
    refine aj (aa O O O (af O O) ?_)
    refine aa O O O (bY (sz := 5) (i := 3) O O O Tryz.underlying174 (by kernel_rfl) (by kernel_rfl) (by first | decide | omega) (by first | decide | omega) O) ?_
    refine am O (aX [Seg.one (.int .u8 0) rfl, Seg.one (.int .u8 0) rfl, Seg.one (.int .u8 0) rfl, Seg.one (.int .i32 0) rfl, Seg.one (.int .i32 0) rfl] O O O (by kernel_rfl)) ?_
    intro b5 _
    try simp only [setN, putD, selM, nth, cw, cx]
    refine aa O O O (ak O O) (am O (by first | exact ap (k := 5) 0 _ O O O O O O (by kernel_rfl) O O | exact ap (k := 5) 1 _ O O O O O O (by kernel_rfl) O O | exact ap (k := 5) 2 _ O O O O O O (by kernel_rfl) O O | exact ap (k := 5) 3 _ O O O O O O (by kernel_rfl) O O) ?_)
    intro _ _
    try simp only [setN, putD, selM, nth, cw, cx]
    refine ai (ae ?_)
    refine hK25 _ _ (ah fun K26 hK26 => ?_)
    refine ah fun K27 hK27 => aj (aa O O O (by first | exact ay 0 (k := 5) O O O (by kernel_rfl) O (by kernel_rfl) | exact ay 1 (k := 5) O O O (by kernel_rfl) O (by kernel_rfl) | exact ay 2 (k := 5) O O O (by kernel_rfl) O (by kernel_rfl) | exact ay 3 (k := 5) O O O (by kernel_rfl) O (by kernel_rfl)) ?_)
    refine aa O O O (af O O) (am O (aN O O (by kernel_rfl) O O (fun w hM hK => within_c _ _ _ _ _ _ w)) ?_)
    intro _ _
    try simp only [setN, putD, selM, nth, cw, cx]
    refine aa O O O (bM O O) (ai ?_)
    refine ae (hK27 _ _ ?_)
    refine aH O (fun hc16 => ?_) (fun hc16 => ?_)
    ·
     first
      | have h1 : within 0 127 r = false := by simpa using hc16
      | have h2 : within 128 2047 r = false := by simpa using hc16
      | have h3 : within 2048 65535 r = false := by simpa using hc16
      | have h4 : within 65536 1114111 r = false := by simpa using hc16
     refine aU (aI ?_)
     refine aV (ae ?_)
     refine hK24 _ _ (aj ?_)
     refine aa O O O (aL O O O O (by omega) (by omega)) ?_
     refine aa O O O (af O O) (ai ?_)
     refine ae (bz ?_)
     refine ah fun K28 hK28 => aj (aa O O O (aT O O O) ?_)
     refine ai (ae ?_)
     refine hK28 _ _ (ah fun K29 hK29 => ?_)
     refine bq O (aU ?_)
     refine aI (aI ?_)
     refine aV (ae ?_)
     refine hK2 _ _ (ah fun K30 hK30 => ?_)
     refine aj (aa O O O (ak O O) ?_)
     refine aa O O O (ak O O) (ai ?_)
     refine ae (hK30 _ _ ?_)
     refine aw av (ar O (.cons (.tmp O) (.cons (.tmp O) .nil)) O) (fun w' hM' hK' => ?_)
     refine ⟨?_, hK'⟩
     first
      | (simp only [encE, encM, t1, if_true, Int.toNat_natCast, reduceCtorEq, if_false]; rfl)
      | (simp only [encE, encM, h1, t2, Bool.false_eq_true, if_true, Int.toNat_natCast, reduceCtorEq, if_false]; rfl)
      | (simp only [encE, encM, h1, h2, t3, Bool.false_eq_true, if_true, Int.toNat_natCast, reduceCtorEq, if_false]; rfl)
      | (simp only [encE, encM, h1, h2, h3, t4, Bool.false_eq_true, if_true, Int.toNat_natCast, reduceCtorEq, if_false]; rfl)
      | (simp only [encE, encM, h1, h2, h3, h4, Bool.false_eq_true, if_true, if_false]; rfl)
    ·
     have h0 : 0 ≤ r ∧ r ≤ 1114111 := by have h := hc16; simp [within] at h; omega
     obtain ⟨x, rfl⟩ : ∃ x : Nat, r = x := ⟨r.toNat, by omega⟩
     first
      | have t1 : within 0 127 (x : Int) = true := by simpa using hc16
      | have t2 : within 128 2047 (x : Int) = true := by simpa using hc16
      | have t3 : within 2048 65535 (x : Int) = true := by simpa using hc16
      | have t4 : within 65536 1114111 (x : Int) = true := by simpa using hc16
     refine aC (ae ?_)
     refine hK26 _ _ (ah fun K31 hK31 => ?_)
     refine aj (aa O O O (af O O) ?_)
     refine aa O O O (aL O O O O (by omega) (by omega)) ?_
     refine am O (by first | exact SL.Eff.makeBytes 1 O O O Tryz.underlying52 (by kernel_rfl) (by decide) (by decide) O O | exact SL.Eff.makeBytes 2 O O O Tryz.underlying52 (by kernel_rfl) (by decide) (by decide) O O | exact SL.Eff.makeBytes 3 O O O Tryz.underlying52 (by kernel_rfl) (by decide) (by decide) O O | exact SL.Eff.makeBytes 4 O O O Tryz.underlying52 (by kernel_rfl) (by decide) (by decide) O O) ?_
     intro g19 _
     try simp only [setN, putD, selM, nth, cw, cx]
     refine aa O O O (ak O O) (ai ?_)
     refine ae (hK31 _ _ ?_)
     refine ah fun K32 hK32 => ah fun K33 hK33 => aj (aa O O O (af O O) ?_)
     refine aa O O O (ak O O) (ai ?_)
     refine ae (hK33 _ _ ?_)
     refine aK (SL.Ok.loopN 5 ?_)
     refine bz (ah fun K34 hK34 => ?_)
     refine ah fun K35 hK35 => aj (aa O O O (af O O) ?_)
     refine aa O O O (bH O O O) (ai ?_)
     refine ae (hK35 _ _ ?_)
     refine bk O (aC ?_)
     refine ae (hK34 _ _ ?_)
     refine ah fun K36 hK36 => aK (ah fun K37 hK37 => ?_)
     refine aj (aa O O O (af O O) ?_)
     refine aa O O O (af O O) (aa O O O (af O O) ?_)
     refine aa O O O (cr O O O (and63 _ (by omega))) ?_
     refine aa O O O (bT O O (by kernel_rfl) Tryz.underlying5 (u8c _)) ?_
     refine aa O O O (SL.Pure.orU8 128 _ O O O) (aa O O O (bx (sz := 1) O O O Tryz.underlying52 (by kernel_rfl) (by decide) (by decide) O) ?_)
     refine am O (by exact cl 0 O O O O O (by kernel_rfl) (by decide)) ?_
     intro _ _
     try simp only [setN, putD, selM, nth, cw, cx]
     refine ai (ae ?_)
     refine hK37 _ _ (aj ?_)
     refine aa O O O (af O O) (aa O O O (cu O O O (by decide) (shr6N _)) ?_)
     refine aa O O O (ak O O) (ai ?_)
     refine aQ (ae ?_)
     refine hK36 _ _ (aj ?_)
     refine aa O O O (af O O) (aa O O O (bU O O O O (by omega) (by omega)) ?_)
     refine aa O O O (ak O O) (ai ?_)
     refine ae (bz ?_)
     refine ah fun K38 hK38 => ah fun K39 hK39 => aj (aa O O O (af O O) ?_)
     refine aa O O O (bH O O O) (ai ?_)
     refine ae (hK39 _ _ ?_)
     refine bk O (aC ?_)
     refine ae (hK38 _ _ ?_)
     refine ah fun K40 hK40 => aK (ah fun K41 hK41 => ?_)
     refine aj (aa O O O (af O O) ?_)
     refine aa O O O (af O O) (aa O O O (af O O) ?_)
     refine aa O O O (cr O O O (and63 _ (by omega))) ?_
     refine aa O O O (bT O O (by kernel_rfl) Tryz.underlying5 (u8c _)) ?_
     refine aa O O O (SL.Pure.orU8 128 _ O O O) (aa O O O (bx (sz := 1) O O O Tryz.underlying52 (by kernel_rfl) (by decide) (by decide) O) ?_)
     refine am O (by exact cl 0 O O O O O (by kernel_rfl) (by decide)) ?_
     intro _ _
     try simp only [setN, putD, selM, nth, cw, cx]
     refine ai (ae ?_)
     refine hK41 _ _ (aj ?_)
     refine aa O O O (af O O) (aa O O O (cu O O O (by decide) (shr6N _)) ?_)
     refine aa O O O (ak O O) (ai ?_)
     refine aQ (ae ?_)
     refine hK40 _ _ (aj ?_)
     refine aa O O O (af O O) (aa O O O (bU O O O O (by omega) (by omega)) ?_)
     refine aa O O O (ak O O) (ai ?_)
     refine ae (bz ?_)
     refine ah fun K42 hK42 => ah fun K43 hK43 => aj (aa O O O (af O O) ?_)
     refine aa O O O (bH O O O) (ai ?_)
     refine ae (hK43 _ _ ?_)
     refine bk O (aC ?_)
     refine ae (hK42 _ _ ?_)
     refine ah fun K44 hK44 => aK (ah fun K45 hK45 => ?_)
     refine aj (aa O O O (af O O) ?_)
     refine aa O O O (af O O) (aa O O O (af O O) ?_)
     refine aa O O O (cr O O O (and63 _ (by omega))) ?_
     refine aa O O O (bT O O (by kernel_rfl) Tryz.underlying5 (u8c _)) ?_
     refine aa O O O (SL.Pure.orU8 128 _ O O O) (aa O O O (bx (sz := 1) O O O Tryz.underlying52 (by kernel_rfl) (by decide) (by decide) O) ?_)
     refine am O (by exact cl 0 O O O O O (by kernel_rfl) (by decide)) ?_
     intro _ _
     try simp only [setN, putD, selM, nth, cw, cx]
     refine ai (ae ?_)
     refine hK45 _ _ (aj ?_)
     refine aa O O O (af O O) (aa O O O (cu O O O (by decide) (shr6N _)) ?_)
     refine aa O O O (ak O O) (ai ?_)
     refine aQ (ae ?_)
     refine hK44 _ _ (aj ?_)
     refine aa O O O (af O O) (aa O O O (bU O O O O (by omega) (by omega)) ?_)
     refine aa O O O (ak O O) (ai ?_)
     refine ae (bz ?_)
     refine ah fun K46 hK46 => ah fun K47 hK47 => aj (aa O O O (af O O) ?_)
     refine aa O O O (bH O O O) (ai ?_)
     refine ae (hK47 _ _ ?_)
     refine bq O (aU ?_)
     refine aI (aI ?_)
     refine aV (ae ?_)
     refine hK32 _ _ (ah fun K48 hK48 => ?_)
     refine aj (aa O O O (af O O) ?_)
     refine aa O O O (au (k := 0) O O (by kernel_rfl) O) ?_
     refine aa O O O (by first | exact al 0 O O O O (by kernel_rfl) | exact al 1 O O O O (by kernel_rfl) | exact al 2 O O O O (by kernel_rfl) | exact al 3 O O O O (by kernel_rfl) | exact al 4 O O O O (by kernel_rfl)) ?_
     refine aa O O O (au (k := 2) O O (by kernel_rfl) O) ?_
     refine aa O O O (by first | exact al 0 O O O O (by kernel_rfl) | exact al 1 O O O O (by kernel_rfl) | exact al 2 O O O O (by kernel_rfl) | exact al 3 O O O O (by kernel_rfl) | exact al 4 O O O O (by kernel_rfl)) ?_
     refine aa O O O (SL.Pure.andNotU8 _ _ O O O) (aa O O O (af O O) ?_)
     refine aa O O O (bT O O (by kernel_rfl) Tryz.underlying5 (u8c _)) ?_
     refine aa O O O (SL.Pure.orU8 _ _ O O O) (aa O O O (bx (sz := 1) O O O Tryz.underlying52 (by kernel_rfl) (by decide) (by decide) O) ?_)
     refine am O (by exact cl 0 O O O O O (by kernel_rfl) (by decide)) ?_
     intro _ _
     try simp only [setN, putD, selM, nth, cw, cx]
     refine ai (ae ?_)
     refine hK48 _ _ (ah fun K49 hK49 => ?_)
     refine aj (aa O O O (af O O) ?_)
     refine aa O O O (SL.Pure.bytesStr O O Tryz.underlying52 Tryz.underlying9 Tryz.underlying5 (fun w hM _ => SL.RC.ofB (SL.Mem.blk (i := 0) O hM) (by decide))) ?_
     refine aa O O O (ak O O) (aa O O O (ak O O) ?_)
     refine ai (ae ?_)
     refine hK49 _ _ (aw (aP (aB (aB (aP (aB av))))) (ar O (.cons (.tmp O) (.cons (.tmp O) .nil)) O) (fun w' hM' hK' => ?_))
     refine ⟨?_, hK'⟩
     first
      | (simp only [encE, encM, t1, if_true, Int.toNat_natCast, reduceCtorEq, if_false]; rfl)
      | (simp only [encE, encM, h1, t2, Bool.false_eq_true, if_true, Int.toNat_natCast, reduceCtorEq, if_false]; rfl)
      | (simp only [encE, encM, h1, h2, t3, Bool.false_eq_true, if_true, Int.toNat_natCast, reduceCtorEq, if_false]; rfl)
      | (simp only [encE, encM, h1, h2, h3, t4, Bool.false_eq_true, if_true, Int.toNat_natCast, reduceCtorEq, if_false]; rfl)
      | (simp only [encE, encM, h1, h2, h3, h4, Bool.false_eq_true, if_true, if_false]; rfl)
   ·
    have h0 : 0 ≤ r ∧ r ≤ 1114111 := by have h := hc16; simp [within] at h; omega
    obtain ⟨x, rfl⟩ : ∃ x : Nat, r = x := ⟨r.toNat, by omega⟩
    first
     | have t1 : within 0 127 (x : Int) = true := by simpa using hc16
     | have t2 : within 128 2047 (x : Int) = true := by simpa using hc16
     | have t3 : within 2048 65535 (x : Int) = true := by simpa using hc16
     | have t4 : within 65536 1114111 (x : Int) = true := by simpa using hc16
    refine aC (ae ?_)
    refine hK20 _ _ (ah fun K50 hK50 => ?_)
    refine aj (aa O O O (af O O) ?_)
    refine aa O O O (aL O O O O (by omega) (by omega)) ?_
    refine am O (by first | exact SL.Eff.makeBytes 1 O O O Tryz.underlying52 (by kernel_rfl) (by decide) (by decide) O O | exact SL.Eff.makeBytes 2 O O O Tryz.underlying52 (by kernel_rfl) (by decide) (by decide) O O | exact SL.Eff.makeBytes 3 O O O Tryz.underlying52 (by kernel_rfl) (by decide) (by decide) O O | exact SL.Eff.makeBytes 4 O O O Tryz.underlying52 (by kernel_rfl) (by decide) (by decide) O O) ?_
    intro g19 _
    try simp only [setN, putD, selM, nth, cw, cx]
    refine aa O O O (ak O O) (ai ?_)
    refine ae (hK50 _ _ ?_)
    refine ah fun K51 hK51 => ah fun K52 hK52 => aj (aa O O O (af O O) ?_)
    refine aa O O O (ak O O) (ai ?_)
    refine ae (hK52 _ _ ?_)
    refine aK (SL.Ok.loopN 5 ?_)
    refine bz (ah fun K53 hK53 => ?_)
    refine ah fun K54 hK54 => aj (aa O O O (af O O) ?_)
    refine aa O O O (bH O O O) (ai ?_)
    refine ae (hK54 _ _ ?_)
    refine bk O (aC ?_)
    refine ae (hK53 _ _ ?_)
    refine ah fun K55 hK55 => aK (ah fun K56 hK56 => ?_)
    refine aj (aa O O O (af O O) ?_)
    refine aa O O O (af O O) (aa O O O (af O O) ?_)
    refine aa O O O (cr O O O (and63 _ (by omega))) ?_
    refine aa O O O (bT O O (by kernel_rfl) Tryz.underlying5 (u8c _)) ?_
    refine aa O O O (SL.Pure.orU8 128 _ O O O) (aa O O O (bx (sz := 1) O O O Tryz.underlying52 (by kernel_rfl) (by decide) (by decide) O) ?_)
    refine am O (by exact cl 0 O O O O O (by kernel_rfl) (by decide)) ?_
    intro _ _
    try simp only [setN, putD, selM, nth, cw, cx]
    refine ai (ae ?_)
    refine hK56 _ _ (aj ?_)
    refine aa O O O (af O O) (aa O O O (cu O O O (by decide) (shr6N _)) ?_)
    refine aa O O O (ak O O) (ai ?_)
    refine aQ (ae ?_)
    refine hK55 _ _ (aj ?_)
    refine aa O O O (af O O) (aa O O O (bU O O O O (by omega) (by omega)) ?_)
    refine aa O O O (ak O O) (ai ?_)
    refine ae (bz ?_)
    refine ah fun K57 hK57 => ah fun K58 hK58 => aj (aa O O O (af O O) ?_)
    refine aa O O O (bH O O O) (ai ?_)
    refine ae (hK58 _ _ ?_)
    refine bk O (aC ?_)
    refine ae (hK57 _ _ ?_)
    refine ah fun K59 hK59 => aK (ah fun K60 hK60 => ?_)
    refine aj (aa O O O (af O O) ?_)
    refine aa O O O (af O O) (aa O O O (af O O) ?_)
    refine aa O O O (cr O O O (and63 _ (by omega))) ?_
    refine aa O O O (bT O O (by kernel_rfl) Tryz.underlying5 (u8c _)) ?_
    refine aa O O O (SL.Pure.orU8 128 _ O O O) (aa O O O (bx (sz := 1) O O O Tryz.underlying52 (by kernel_rfl) (by decide) (by decide) O) ?_)
    refine am O (by exact cl 0 O O O O O (by kernel_rfl) (by decide)) ?_
    intro _ _
    try simp only [setN, putD, selM, nth, cw, cx]
    refine ai (ae ?_)
    refine hK60 _ _ (aj ?_)
    refine aa O O O (af O O) (aa O O O (cu O O O (by decide) (shr6N _)) ?_)
    refine aa O O O (ak O O) (ai ?_)
    refine aQ (ae ?_)
    refine hK59 _ _ (aj ?_)
    refine aa O O O (af O O) (aa O O O (bU O O O O (by omega) (by omega)) ?_)
    refine aa O O O (ak O O) (ai ?_)
    refine ae (bz ?_)
    refine ah fun K61 hK61 => ah fun K62 hK62 => aj (aa O O O (af O O) ?_)
    refine aa O O O (bH O O O) (ai ?_)
    refine ae (hK62 _ _ ?_)
    refine bq O (aU ?_)
    refine aI (aI ?_)
    refine aV (ae ?_)
    refine hK51 _ _ (ah fun K63 hK63 => ?_)
    refine aj (aa O O O (af O O) ?_)
    refine aa O O O (au (k := 0) O O (by kernel_rfl) O) ?_
    refine aa O O O (by first | exact al 0 O O O O (by kernel_rfl) | exact al 1 O O O O (by kernel_rfl) | exact al 2 O O O O (by kernel_rfl) | exact al 3 O O O O (by kernel_rfl)) ?_
    refine aa O O O (au (k := 2) O O (by kernel_rfl) O) ?_
    refine aa O O O (by first | exact al 0 O O O O (by kernel_rfl) | exact al 1 O O O O (by kernel_rfl) | exact al 2 O O O O (by kernel_rfl) | exact al 3 O O O O (by kernel_rfl)) ?_
    refine aa O O O (SL.Pure.andNotU8 _ _ O O O) (aa O O O (af O O) ?_)
    refine aa O O O (bT O O (by kernel_rfl) Tryz.underlying5 (u8c _)) ?_
    refine aa O O O (SL.Pure.orU8 _ _ O O O) (aa O O O (bx (sz := 1) O O O Tryz.underlying52 (by kernel_rfl) (by decide) (by decide) O) ?_)
    refine am O (by exact cl 0 O O O O O (by kernel_rfl) (by decide)) ?_
    intro _ _
    try simp only [setN, putD, selM, nth, cw, cx]
    refine ai (ae ?_)
    refine hK63 _ _ (ah fun K64 hK64 => ?_)
    refine aj (aa O O O (af O O) ?_)
    refine aa O O O (SL.Pure.bytesStr O O Tryz.underlying52 Tryz.underlying9 Tryz.underlying5 (fun w hM _ => SL.RC.ofB (SL.Mem.blk (i := 0) O hM) (by decide))) ?_
    refine aa O O O (ak O O) (aa O O O (ak O O) ?_)
    refine ai (ae ?_)
    refine hK64 _ _ (aw (aP (aB (aB (aP (aB av))))) (ar O (.cons (.tmp O) (.cons (.tmp O) .nil)) O) (fun w' hM' hK' => ?_))
    refine ⟨?_, hK'⟩
    first
     | (simp only [encE, encM, t1, if_true, Int.toNat_natCast, reduceCtorEq, if_false]; rfl)
     | (simp only [encE, encM, h1, t2, Bool.false_eq_true, if_true, Int.toNat_natCast, reduceCtorEq, if_false]; rfl)
     | (simp only [encE, encM, h1, h2, t3, Bool.false_eq_true, if_true, Int.toNat_natCast, reduceCtorEq, if_false]; rfl)
     | (simp only [encE, encM, h1, h2, h3, t4, Bool.false_eq_true, if_true, Int.toNat_natCast, reduceCtorEq, if_false]; rfl)
     | (simp only [encE, encM, h1, h2, h3, h4, Bool.false_eq_true, if_true, if_false]; rfl)
  ·
   have h0 : 0 ≤ r ∧ r ≤ 1114111 := by have h := hc16; simp [within] at h; omega
   obtain ⟨x, rfl⟩ : ∃ x : Nat, r = x := ⟨r.toNat, by omega⟩
   first
    | have t1 : within 0 127 (x : Int) = true := by simpa using hc16
    | have t2 : within 128 2047 (x : Int) = true := by simpa using hc16
    | have t3 : within 2048 65535 (x : Int) = true := by simpa using hc16
    | have t4 : within 65536 1114111 (x : Int) = true := by simpa using hc16
   refine aC (ae ?_)
   refine hK14 _ _ (ah fun K65 hK65 => ?_)
   refine aj (aa O O O (af O O) ?_)
   refine aa O O O (aL O O O O (by omega) (by omega)) ?_
   refine am O (by first | exact SL.Eff.makeBytes 1 O O O Tryz.underlying52 (by kernel_rfl) (by decide) (by decide) O O | exact SL.Eff.makeBytes 2 O O O Tryz.underlying52 (by kernel_rfl) (by decide) (by decide) O O | exact SL.Eff.makeBytes 3 O O O Tryz.underlying52 (by kernel_rfl) (by decide) (by decide) O O | exact SL.Eff.makeBytes 4 O O O Tryz.underlying52 (by kernel_rfl) (by decide) (by decide) O O) ?_
   intro g19 _
   try simp only [setN, putD, selM, nth, cw, cx]
   refine aa O O O (ak O O) (ai ?_)
   refine ae (hK65 _ _ ?_)
   refine ah fun K66 hK66 => ah fun K67 hK67 => aj (aa O O O (af O O) ?_)
   refine aa O O O (ak O O) (ai ?_)
   refine ae (hK67 _ _ ?_)
   refine aK (SL.Ok.loopN 5 ?_)
   refine bz (ah fun K68 hK68 => ?_)
   refine ah fun K69 hK69 => aj (aa O O O (af O O) ?_)
   refine aa O O O (bH O O O) (ai ?_)
   refine ae (hK69 _ _ ?_)
   refine bk O (aC ?_)
   refine ae (hK68 _ _ ?_)
   refine ah fun K70 hK70 => aK (ah fun K71 hK71 => ?_)
   refine aj (aa O O O (af O O) ?_)
   refine aa O O O (af O O) (aa O O O (af O O) ?_)
   refine aa O O O (cr O O O (and63 _ (by omega))) ?_
   refine aa O O O (bT O O (by kernel_rfl) Tryz.underlying5 (u8c _)) ?_
   refine aa O O O (SL.Pure.orU8 128 _ O O O) (aa O O O (bx (sz := 1) O O O Tryz.underlying52 (by kernel_rfl) (by decide) (by decide) O) ?_)
   refine am O (by exact cl 0 O O O O O (by kernel_rfl) (by decide)) ?_
   intro _ _
   try simp only [setN, putD, selM, nth, cw, cx]
   refine ai (ae ?_)
   refine hK71 _ _ (aj ?_)
   refine aa O O O (af O O) (aa O O O (cu O O O (by decide) (shr6N _)) ?_)
   refine aa O O O (ak O O) (ai ?_)
   refine aQ (ae ?_)
   refine hK70 _ _ (aj ?_)
   refine aa O O O (af O O) (aa O O O (bU O O O O (by omega) (by omega)) ?_)
   refine aa O O O (ak O O) (ai ?_)
   refine ae (bz ?_)
   refine ah fun K72 hK72 => ah fun K73 hK73 => aj (aa O O O (af O O) ?_)
   refine aa O O O (bH O O O) (ai ?_)
   refine ae (hK73 _ _ ?_)
   refine bq O (aU ?_)
   refine aI (aI ?_)
   refine aV (ae ?_)
   refine hK66 _ _ (ah fun K74 hK74 => ?_)
   refine aj (aa O O O (af O O) ?_)
   refine aa O O O (au (k := 0) O O (by kernel_rfl) O) ?_
   refine aa O O O (by first | exact al 0 O O O O (by kernel_rfl) | exact al 1 O O O O (by kernel_rfl) | exact al 2 O O O O (by kernel_rfl)) ?_
   refine aa O O O (au (k := 2) O O (by kernel_rfl) O) ?_
   refine aa O O O (by first | exact al 0 O O O O (by kernel_rfl) | exact al 1 O O O O (by kernel_rfl) | exact al 2 O O O O (by kernel_rfl)) ?_
   refine aa O O O (SL.Pure.andNotU8 _ _ O O O) (aa O O O (af O O) ?_)
   refine aa O O O (bT O O (by kernel_rfl) Tryz.underlying5 (u8c _)) ?_
   refine aa O O O (SL.Pure.orU8 _ _ O O O) (aa O O O (bx (sz := 1) O O O Tryz.underlying52 (by kernel_rfl) (by decide) (by decide) O) ?_)
   refine am O (by exact cl 0 O O O O O (by kernel_rfl) (by decide)) ?_
   intro _ _
   try simp only [setN, putD, selM, nth, cw, cx]
   refine ai (ae ?_)
   refine hK74 _ _ (ah fun K75 hK75 => ?_)
   refine aj (aa O O O (af O O) ?_)
   refine aa O O O (SL.Pure.bytesStr O O Tryz.underlying52 Tryz.underlying9 Tryz.underlying5 (fun w hM _ => SL.RC.ofB (SL.Mem.blk (i := 0) O hM) (by decide))) ?_
   refine aa O O O (ak O O) (aa O O O (ak O O) ?_)
   refine ai (ae ?_)
   refine hK75 _ _ (aw (aP (aB (aB (aP (aB av))))) (ar O (.cons (.tmp O) (.cons (.tmp O) .nil)) O) (fun w' hM' hK' => ?_))
   refine ⟨?_, hK'⟩
   first
    | (simp only [encE, encM, t1, if_true, Int.toNat_natCast, reduceCtorEq, if_false]; rfl)
    | (simp only [encE, encM, h1, t2, Bool.false_eq_true, if_true, Int.toNat_natCast, reduceCtorEq, if_false]; rfl)
    | (simp only [encE, encM, h1, h2, t3, Bool.false_eq_true, if_true, Int.toNat_natCast, reduceCtorEq, if_false]; rfl)
    | (simp only [encE, encM, h1, h2, h3, t4, Bool.false_eq_true, if_true, Int.toNat_natCast, reduceCtorEq, if_false]; rfl)
    | (simp only [encE, encM, h1, h2, h3, h4, Bool.false_eq_true, if_true, if_false]; rfl)
 ·
  have h0 : 0 ≤ r ∧ r ≤ 1114111 := by have h := hc16; simp [within] at h; omega
  obtain ⟨x, rfl⟩ : ∃ x : Nat, r = x := ⟨r.toNat, by omega⟩
  first
   | have t1 : within 0 127 (x : Int) = true := by simpa using hc16
   | have t2 : within 128 2047 (x : Int) = true := by simpa using hc16
   | have t3 : within 2048 65535 (x : Int) = true := by simpa using hc16
   | have t4 : within 65536 1114111 (x : Int) = true := by simpa using hc16
  refine aC (ae ?_)
  refine hK8 _ _ (ah fun K76 hK76 => ?_)
  refine aj (aa O O O (af O O) ?_)
  refine aa O O O (aL O O O O (by omega) (by omega)) ?_
  refine am O (by first | exact SL.Eff.makeBytes 1 O O O Tryz.underlying52 (by kernel_rfl) (by decide) (by decide) O O | exact SL.Eff.makeBytes 2 O O O Tryz.underlying52 (by kernel_rfl) (by decide) (by decide) O O | exact SL.Eff.makeBytes 3 O O O Tryz.underlying52 (by kernel_rfl) (by decide) (by decide) O O | exact SL.Eff.makeBytes 4 O O O Tryz.underlying52 (by kernel_rfl) (by decide) (by decide) O O) ?_
  intro g19 _
  try simp only [setN, putD, selM, nth, cw, cx]
  refine aa O O O (ak O O) (ai ?_)
  refine ae (hK76 _ _ ?_)
  refine ah fun K77 hK77 => ah fun K78 hK78 => aj (aa O O O (af O O) ?_)
  refine aa O O O (ak O O) (ai ?_)
  refine ae (hK78 _ _ ?_)
  refine aK (SL.Ok.loopN 5 ?_)
  refine bz (ah fun K79 hK79 => ?_)
  refine ah fun K80 hK80 => aj (aa O O O (af O O) ?_)
  refine aa O O O (bH O O O) (ai ?_)
  refine ae (hK80 _ _ ?_)
  refine bq O (aU ?_)
  refine aI (aI ?_)
  refine aV (ae ?_)
  refine hK77 _ _ (ah fun K81 hK81 => ?_)
  refine aj (aa O O O (af O O) ?_)
  refine aa O O O (au (k := 0) O O (by kernel_rfl) O) ?_
  refine aa O O O (by first | exact al 0 O O O O (by kernel_rfl) | exact al 1 O O O O (by kernel_rfl)) ?_
  refine aa O O O (au (k := 2) O O (by kernel_rfl) O) ?_
  refine aa O O O (by first | exact al 0 O O O O (by kernel_rfl) | exact al 1 O O O O (by kernel_rfl)) ?_
  refine aa O O O (SL.Pure.andNotU8 _ _ O O O) (aa O O O (af O O) ?_)
  refine aa O O O (bT O O (by kernel_rfl) Tryz.underlying5 (u8c _)) ?_
  refine aa O O O (SL.Pure.orU8 _ _ O O O) (aa O O O (bx (sz := 1) O O O Tryz.underlying52 (by kernel_rfl) (by decide) (by decide) O) ?_)
  refine am O (by exact cl 0 O O O O O (by kernel_rfl) (by decide)) ?_
  intro _ _
  try simp only [setN, putD, selM, nth, cw, cx]
  refine ai (ae ?_)
  refine hK81 _ _ (ah fun K82 hK82 => ?_)
  refine aj (aa O O O (af O O) ?_)
  refine aa O O O (SL.Pure.bytesStr O O Tryz.underlying52 Tryz.underlying9 Tryz.underlying5 (fun w hM _ => SL.RC.ofB (SL.Mem.blk (i := 0) O hM) (by decide))) ?_
  refine aa O O O (ak O O) (aa O O O (ak O O) ?_)
  refine ai (ae ?_)
  refine hK82 _ _ (aw (aP (aB (aB (aP (aB av))))) (ar O (.cons (.tmp O) (.cons (.tmp O) .nil)) O) (fun w' hM' hK' => ?_))
  refine ⟨?_, hK'⟩
  first
   | (simp only [encE, encM, t1, if_true, Int.toNat_natCast, reduceCtorEq, if_false]; rfl)
   | (simp only [encE, encM, h1, t2, Bool.false_eq_true, if_true, Int.toNat_natCast, reduceCtorEq, if_false]; rfl)
   | (simp only [encE, encM, h1, h2, t3, Bool.false_eq_true, if_true, Int.toNat_natCast, reduceCtorEq, if_false]; rfl)
   | (simp only [encE, encM, h1, h2, h3, t4, Bool.false_eq_true, if_true, Int.toNat_natCast, reduceCtorEq, if_false]; rfl)
   | (simp only [encE, encM, h1, h2, h3, h4, Bool.false_eq_true, if_true, if_false]; rfl)
end Go.Proofs.YthfhhkanpnemcaaGreatDoor
namespace Go.Proofs.YthfhhkanpnemcaaGreatDoor
open Go.SL Go.RowKit IntWalk
set_option linter.unusedVariables false
set_option maxRecDepth 100000
set_option linter.unusedSimpArgs false
set_option maxHeartbeats 400000

abbrev intZ (z : Int) : Obj := .cells (flat [Seg.one (.int .i64 z) rfl]) 3 (0, 0)
def okRune (p : Nat × Int) : Bool := decide (p.2 = 9) || prn (encM p.2)
def okLine (s : List UInt8) : Bool := valid s && (runes s).all okRune
theorem encM_len (r : Int) : (encM r).length ≤ 4 := by unfold encM; (repeat' split) <;> simp

theorem badByte_c (s : List UInt8) (hl : s.length ≤ 1000000) (w : World) : Calls Tryz.prog 73 [str s].toArray w fun e w' => ∃ z : Int, (z < 0 ↔ okLine s = true) ∧ e = .returned (.int .i64 z) ∧ Post w (blocksOf []) [] w' := by
 refine SL.calls_okM (n := 34) (W := (blocksOf [])) (m := []) Tryz.func73 O Tryz.ntmps73 O (aO _ _ _) ?_
 simp only [SL.enum, Nat.reduceAdd]
 refine bA fun K1 hK1 => bE (bP O (SL.ND.alloc O) (fun _ => (aX [Seg.one (.int .i64 0) rfl] O O O (by kernel_rfl))) ?_)
 intro b2 _
 try simp only [setN, putD, selM, nth, cw, cx]
 refine bC (bi ?_)
 refine hK1 _ _ _ _ _ (bA fun K2 hK2 => ?_)
 refine bA fun K3 hK3 => bE (aS O (by intro _ h; cases h) O O (af O O) ?_)
 refine bP O (co O O (by kernel_rfl) O) (fun _ => (aM [] [0] O O (by kernel_rfl) O O O O (fun w hM hK => runes_c s w))) ?_
 intro b10 _
 try simp only [setN, putD, selM, nth, cw, cx]
 refine bC (bi ?_)
 refine hK3 _ _ _ _ _ (SL.Ok.blockI ?_)
 refine SL.Ok.rangeFunc (ps := [11, 12]) (xs := ((runes s).map rnV)) (X := Unit) (Y := Nat) [1] [0] [] O (by kernel_rfl) O O O O (fun w hM hK => runes_iter s hl b10 w (SL.Mem.blk (i := 0) O hM)) (rnV_len s) O (fun i _ => ((runes s).take i).all okRune = true) (fun _ => [.blk b2 (intZ 0)]) () O O (fun _ => (runes s).all okRune = false) (fun y => [.blk b2 (intZ y)]) (fun x => [(4, sec x), (3, fst1 x), (2, .pointer (some ⟨b2, 0, none⟩))]) ?_ ?_ ?_ ?_
 ·
  intro lr x hx w K hK
  obtain ⟨p, _, rfl⟩ := List.mem_map.1 hx
  refine bA fun K4 hK4 => bE (aS O (by intro _ h; cases h) O O (ak O O) ?_)
  refine bC (bi ?_)
  refine hK4 _ _ _ _ _ (bE ?_)
  refine aS O (by intro _ h; cases h) O O (ak O O) ?_
  refine bC (bi ?_)
  exact bI hK [] ⟨rfl, rfl, rfl, trivial⟩ O rfl
 ·
  intro lr i x z hx hz wS hK0 hMS
  obtain ⟨p, hp, rfl⟩ : ∃ p, (runes s)[i]? = some p ∧ rnV p = x := by
   rw [List.getElem?_map] at hx
   cases h : (runes s)[i]? with
   | none => rw [h] at hx; cases hx
   | some p => rw [h] at hx; exact ⟨p, rfl, Option.some.inj hx⟩
  refine SL.Ok.blockI (bA fun K5 hK5 => ?_)
  refine bE (aS O (by intro _ h; cases h) O O (af O O) ?_)
  refine bP O (co O O (by kernel_rfl) O) (fun _ => (aN O O (by kernel_rfl) O O (fun w hM hK => encode1_c p.2 w))) ?_
  intro _ _
  try simp only [setN, putD, selM, nth, cw, cx]
  refine aS O (by intro _ h; cases h) O O (af O O) ?_
  refine aS O (by intro _ h; cases h) O O (aW O O O) ?_
  refine aS O (by intro _ h; cases h) O O (aW O O O) ?_
  refine aS O (by intro _ h; cases h) O O (ak O O) ?_
  refine aS O (by intro _ h; cases h) O O (ak O O) ?_
  refine bC (bi ?_)
  refine hK5 _ _ _ _ _ (bA fun K6 hK6 => ?_)
  refine bE (aS O (by intro _ h; cases h) O O (af O O) ?_)
  refine aS O (by intro _ h; cases h) O O (bl O O O) ?_
  refine aS O (by intro _ h; cases h) O O (af O O) ?_
  refine aR (d := 20) O (fun hg20 => ?_) (fun hg20 => ?_)
  ·
   have h9 : ¬ p.2 = 9 := by simpa using hg20
   refine SL.Ok.opGI O O O O O (by intro _ h; cases h) O O (af O O) ?_
   refine SL.Ok.effGI O O O O O (co O O (by kernel_rfl) O) (fun _ => (aN O O (by kernel_rfl) O O (fun w hM hK => printable_c (encM p.2) (by have := encM_len p.2; omega) w))) ?_
   intro _ _
   simp only [setN, putD, selM, nth, cw, cx]
   refine SL.Ok.opGI O O O O O (by intro _ h; cases h) O O (bM O O) ?_
   refine aS O (by intro _ h; cases h) O O (aF O O O) ?_
   refine bC (bi ?_)
   refine hK6 _ _ _ _ _ (SL.Ok.condI O (fun hc24 => ?_) (fun hc24 => ?_))
   ·
    have hb : prn (encM p.2) = false := by simpa using hc24
    refine bA fun K7 hK7 => bE (aS O (by intro _ h; cases h) O O (af O O) ?_)
    refine bP O (SL.ND.store O) (fun _ => (by first | exact ap (k := 1) 0 [SL.Seg.one _ rfl] O O O O O O (by kernel_rfl) O O)) ?_
    intro _ _
    try simp only [setN, putD, selM, nth, cw, cx]
    refine bC (bi ?_)
    refine hK7 _ _ _ _ _ (SL.Ok.retGoI ?_)
    refine SL.Ok.rtBlockI ?_
    exact SL.Ok.rndRet p.1 [0] (all_bad hp (by unfold okRune; rw [hb, decide_eq_false h9]; rfl)) O rfl
   ·
    have hb : prn (encM p.2) = true := by simpa using hc24
    refine SL.Ok.skipI' (SL.Ok.normBlockI ?_)
    exact SL.Ok.rndGo () [0] (all_take hz hp (by unfold okRune; rw [hb, Bool.or_true])) O rfl
  ·
   have h9 : p.2 = 9 := by simpa using hg20
   refine SL.Ok.opSI O O O O O O O (SL.Ok.opSI O O O O O O O ?_)
   refine SL.Ok.opSI O O O O O O O (aS O (by intro _ h; cases h) O O (aE O O O) ?_)
   refine bC (bi ?_)
   refine hK6 _ _ _ _ _ (SL.Ok.condIF O ?_)
   refine SL.Ok.skipI' (SL.Ok.normBlockI ?_)
   exact SL.Ok.rndGo () [0] (all_take hz hp (by unfold okRune; rw [decide_eq_true h9]; rfl)) O rfl
 ·
  intro D z hz
  try dsimp only
  simp only [SL.selM, SL.nth, List.cons_append, List.nil_append, List.append_nil]
  have hall : (runes s).all okRune = true := by rw [List.length_map, List.take_length] at hz; exact hz
  refine SL.Ok.normBlockI (bi ?_)
  refine hK2 _ _ _ _ _ (bA fun K8 hK8 => ?_)
  refine bA fun K9 hK9 => bE (aS O (by intro _ h; cases h) O O (af O O) ?_)
  refine bP O (co O O (by kernel_rfl) O) (fun _ => (aM [] [0, 1] O O (by kernel_rfl) O O O O (fun w hM hK => ucheck_c s hl w))) ?_
  intro ⟨at1, e1⟩ hx1
  try simp only [setN, putD, selM, nth, cw, cx]
  obtain ⟨hx0, _, hx2⟩ := hx1
  dsimp only at hx0 hx2
  refine aS O (by intro _ h; cases h) O O (af O O) ?_
  refine aS O (by intro _ h; cases h) O O (aW O O O) ?_
  refine aS O (by intro _ h; cases h) O O (aW O O O) ?_
  refine aS O (by intro _ h; cases h) O O (ak O O) ?_
  refine aS O (by intro _ h; cases h) O O (ak O O) ?_
  refine bC (bi ?_)
  refine hK9 _ _ _ _ _ (bA fun K10 hK10 => ?_)
  refine bE (aS O (by intro _ h; cases h) O O (af O O) ?_)
  refine aS O (by intro _ h; cases h) O O (bl O O O) ?_
  refine bC (bi ?_)
  refine hK10 _ _ _ _ _ (SL.Ok.condI O (fun hc32 => ?_) (fun hc32 => ?_))
  ·
   have he : ¬ e1 = 0 := by simpa using hc32
   refine bA fun K11 hK11 => bE (aS O (by intro _ h; cases h) O O (af O O) ?_)
   refine bP O (SL.ND.store O) (fun _ => (by first | exact ap (k := 1) 0 [SL.Seg.one _ rfl] O O O O O O (by kernel_rfl) O O | exact ap (k := 1) 1 [SL.Seg.one _ rfl] O O O O O O (by kernel_rfl) O O)) ?_
   intro _ _
   try simp only [setN, putD, selM, nth, cw, cx]
   refine bC (bi ?_)
   refine hK11 _ _ _ _ _ (SL.Ok.retDI 0 O (aB av) (ar O (.cons (by first | exact SL.RV.cell1 0 O O O (by kernel_rfl) | exact SL.RV.cell1 1 O O O (by kernel_rfl)) .nil) O) (fun w' hM' hK' => ?_))
   exact ⟨at1, ⟨fun h => absurd h (by omega), fun h => absurd (hx2.2 (by unfold okLine at h; simp at h; exact h.1)) he⟩, rfl, hK', hM'.sel [] rfl⟩
  ·
   have he : e1 = 0 := by simpa using hc32
   refine SL.Ok.skipI' (bi ?_)
   refine hK8 _ _ _ _ _ (bA fun K12 hK12 => ?_)
   refine bE (bP O (SL.ND.store O) (fun _ => (by first | exact ap (k := 1) 0 [SL.Seg.one _ rfl] O O O O O O (by kernel_rfl) O O | exact ap (k := 1) 1 [SL.Seg.one _ rfl] O O O O O O (by kernel_rfl) O O)) ?_)
   intro _ _
   try simp only [setN, putD, selM, nth, cw, cx]
   refine bC (bi ?_)
   refine hK12 _ _ _ _ _ (SL.Ok.retDI 0 O av (ar O (.cons (by first | exact SL.RV.cell1 0 O O O (by kernel_rfl) | exact SL.RV.cell1 1 O O O (by kernel_rfl)) .nil) O) (fun w' hM' hK' => ?_))
   exact ⟨-1, ⟨fun _ => by unfold okLine; rw [hx2.1 he, hall]; rfl, fun _ => by decide⟩, rfl, hK', hM'.sel [] rfl⟩
 ·
  intro D y hy
  try dsimp only
  simp only [SL.selM, SL.nth, List.cons_append, List.nil_append, List.append_nil]
  refine SL.Ok.retDI 0 O (aP (aB av)) (ar O (.cons (by first | exact SL.RV.cell1 0 O O O (by kernel_rfl) | exact SL.RV.cell1 1 O O O (by kernel_rfl)) .nil) O) (fun w' hM' hK' => ?_)
  exact ⟨(y : Int), ⟨fun h => absurd h (by omega), fun h => by unfold okLine at h; rw [hy, Bool.and_false] at h; cases h⟩, rfl, hK', hM'.sel [] rfl⟩
end Go.Proofs.YthfhhkanpnemcaaGreatDoor
