/- A small logic for walks: from arguments that came in to a law's own statement. -/
import Derived.Test.YtehjohfpegbhmaaGreatDoorSl8
namespace Go.SL
open Go.RowKit

section
variable {P : Program} {n : Nat} {W : Nat → Prop} {w0 : World} {l : List (Nat × Value)} {m : List Res} {ops : Array Oper} {Q : Exit → Act → World → Prop} {rest : List Oper} {o : Oper}

/-- a slice that came in: nil or empty, or elements in old memory -/
def SlRd (P : Program) (w : World) (g : Nat) (e : TypeId) (sz : Nat) (a : Option Addr) (len : Nat) : Prop :=
  len = 0 ∨ ∃ b off, a = some ⟨b, off, none⟩ ∧ b < w.heap.size ∧ ∃ E : Nat → List Seg, ∀ i, i < len → w.rangeAt b (off + i * sz) (flat (E i)).toList ∧ Rd P w g e (E i)

theorem add_spot {a : Addr} {k : Nat} {w : World} {v : Value} (h : w.cell? (a.add k) = some v) (hk : k = 0 → a.spot = none) : a.add k = ⟨a.block, a.off + k, none⟩ := by
  obtain ⟨b, o, s⟩ := a
  unfold Addr.add
  by_cases h0 : k = 0
  · subst h0
    have : s = none := hk rfl
    subst this
    simp
  · simp [h0]


theorem slRd_of {g : Nat} {e : TypeId} {w : World} {a : Option Addr} {len cap : Nat} (sz : Nat) (hsz : P.cellsOf e = sz) (hpos : 0 < sz) (hw : ∀ es, Rd P w g e es → width es = sz)
    (h : (a = none ∧ len = 0 ∧ cap = 0) ∨ ∃ ad, a = some ad ∧ len ≤ cap ∧ cap ≤ maxLen ∧ len * P.bytesOf e ≤ 140737488351232 ∧ ∃ E : Nat → List Seg, ∀ i, i < len → ElemAt w (ad.add (i * P.cellsOf e)) (E i) ∧ Rd P w g e (E i)) : SlRd P w g e sz a len := by
  rcases h with ⟨_, rfl, _⟩ | ⟨ad, rfl, _, _, _, E, hE⟩
  · exact .inl rfl
  · by_cases h0 : len = 0
    · exact .inl h0
    · right
      obtain ⟨b, off, sp⟩ := ad
      subst hsz
      have h1 := hE 0 (by omega)
      have hne : 0 < (flat (E 0)).size := by rw [flat_size, hw _ h1.2]; exact hpos
      have hc := h1.1.2 0 (flat (E 0))[0] (Array.getElem?_eq_getElem hne)
      simp only [Nat.zero_mul, Addr.add, if_true] at hc
      have hsp : sp = none := by simpa using World.cell?_spot hc
      subst hsp
      refine ⟨b, off, rfl, by simpa [Addr.add] using h1.1.1, E, fun i hi => ⟨fun j v hj => ?_, (hE i hi).2⟩⟩
      have := (hE i hi).1.2 j v (by simpa using hj)
      rw [Addr.add_mid, Addr.add_mid] at this
      exact this

/-- a load of an element of a slice that came in -/
theorem Pure.loadOR {t : TypeId} {x : Operand} {b off k : Nat} {q : List Seg} (hr : w0.rangeAt b off (flat q).toList) (hlt : b < w0.heap.size) (hW : ¬ W b) (ho : o.op = .load t x) (hx : ev l x = some (.pointer (some ⟨b, off, none⟩)))
    (hk : csz P t = some k) (hq : width q = k) (ht : aggB P t = some true) : Pure P n W w0 l m o (.agg (flat q)) :=
  Pure.loadR ho hx ht (by rw [flat_size, hq]; exact hk) fun w _ hK j v hj => by
    rw [World.cell?_of_block (w := w0) (hK.block b hlt hW)]; exact hr j v hj

theorem Pure.loadOR1 {t : TypeId} {x : Operand} {b off : Nat} {v : Value} {h : v.oneCell' = true} (hr : w0.rangeAt b off (flat [.one v h]).toList) (hlt : b < w0.heap.size) (hW : ¬ W b) (ho : o.op = .load t x) (hx : ev l x = some (.pointer (some ⟨b, off, none⟩)))
    (ht : aggB P t = some false) : Pure P n W w0 l m o v :=
  Pure.loadC ho hx ht fun w _ hK => by
    rw [World.cell?_of_block (w := w0) (hK.block b hlt hW)]
    have := hr 0 v (by simp [flat, Seg.cs])
    simpa using this

section arg
variable {H : Type} {enc : TypeId × Value → H} {w : World} {base : Nat} {spare : Nat → Bool} {held : Bool}
theorem arg_agg {r : Reach} {b0 : Nat} {g : Nat} {t : TypeId} {v : Value} {d : DataW H} {p : List MemPlace} (hu : aggB P t = some true) (hok : Value.okWide P w r b0 t v) (ht : DataW.Trod enc P w base spare held t v d p) (hg : goodB P g t = true) (hwt : ∀ k ∈ DataW.weights P t d, k ≤ reachBytes) : ∃ ss, v = .agg (flat ss) ∧ Rd P w g t ss := by
  obtain ⟨fuel, hf⟩ := ht
  obtain ⟨ss, hs, hr⟩ := trod_rd g fuel t _ _ hg hwt hf
  refine ⟨ss, ?_, hr⟩
  have : ∃ cs, v = .agg cs := by
    unfold Value.okWide at hok
    unfold aggB at hu
    cases hU : P.underlying t with
    | none => simp [hU] at hu
    | some ty => cases ty <;> simp only [hU] at hu hok <;> first | (obtain ⟨cs, rfl, _⟩ := hok; exact ⟨cs, rfl⟩) | (simp at hu)
  obtain ⟨cs, rfl⟩ := this
  simp only [Value.cells] at hs
  congr 1
  apply Array.ext'
  exact hs

theorem arg_slice {g : Nat} {t e : TypeId} {a : Option Addr} {len cap : Nat} {d : DataW H} {p : List MemPlace} (hu : P.underlying t = some (.slice e)) (ht : DataW.Trod enc P w base spare held t (.slice a len cap) d p) (hg : goodB P (g + 1) t = true) (hwt : ∀ k ∈ DataW.weights P t d, k ≤ reachBytes) :
    (a = none ∧ len = 0 ∧ cap = 0) ∨ ∃ ad, a = some ad ∧ len ≤ cap ∧ cap ≤ maxLen ∧ len * P.bytesOf e ≤ 140737488351232 ∧ ∃ E : Nat → List Seg, ∀ i, i < len → ElemAt w (ad.add (i * P.cellsOf e)) (E i) ∧ Rd P w g e (E i) := by
  obtain ⟨fuel, hf⟩ := ht
  obtain ⟨ss, hs, hr⟩ := trod_rd (g + 1) fuel t _ _ hg hwt hf
  unfold Rd at hr
  simp only [hu] at hr
  obtain ⟨a', len', cap', rfl, hr⟩ := hr
  simp only [Value.cells, flat, Seg.cs] at hs
  have : Value.slice a len cap = Value.slice a' len' cap' := by simpa using hs
  simp only [Value.slice.injEq] at this
  obtain ⟨rfl, rfl, rfl⟩ := this
  exact hr
end arg
end
end Go.SL
