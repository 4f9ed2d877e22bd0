/- A small logic for walks: the frame as a list of known slots, the memory as a list of owned resources. Words and their first laws. -/
import Derived.WalkKit
import Derived.Lib.FrozenHead
import Derived.StillTailTactics
import Derived.OrdersHeld
import Derived.KernelRfl
import Derived.BigQuiet
import Derived.Deep.QuietTactic
namespace Go.SL
open Go.RowKit

/-! ### Plain lists -/
def look : List (Nat × Value) → Nat → Option Value
  | [], _ => none
  | (k, v) :: l, n => bif Nat.beq k n then some v else look l n

def nth {α : Type} : List α → Nat → Option α
  | [], _ => none
  | x :: _, 0 => some x
  | _ :: l, n + 1 => nth l n

theorem nth_eq {α : Type} : ∀ (l : List α) (i : Nat), nth l i = l[i]?
  | [], _ => by simp [nth]
  | x :: l, 0 => by simp [nth]
  | x :: l, i + 1 => by simp [nth, nth_eq l i]

def ev (l : List (Nat × Value)) : Operand → Option Value
  | .tmp t => look l t
  | .const v => some v
  | .global g => some (.pointer (some ⟨g, 0, none⟩))
  | .func f => some (.func (.func f) #[] #[])

def evs (l : List (Nat × Value)) : List Operand → Option (List Value)
  | [] => some []
  | x :: r => match ev l x, evs l r with
    | some v, some vs => some (v :: vs)
    | _, _ => none

/-! ### Segments of a block -/
inductive Seg where
  | one (v : Value) (h : v.oneCell' = true)
  | arr (n : Nat) (cs : Array Value) (h : cs.size = n) (h1 : cs.toList.all Value.oneCell' = true)

def Seg.n : Seg → Nat
  | .one _ _ => 1
  | .arr n _ _ _ => n
def Seg.cs : Seg → Array Value
  | .one v _ => #[v]
  | .arr _ cs _ _ => cs
theorem Seg.h (s : Seg) : s.cs.size = s.n := by cases s <;> simp_all [Seg.n, Seg.cs]
theorem Seg.h1 (s : Seg) : s.cs.toList.all Value.oneCell' = true := by cases s <;> simp_all [Seg.cs]

/-- a string by its bytes -/
def str (l : List UInt8) : Value := .string ⟨l.toArray⟩

/-- cells of bytes -/
def byteA (l : List UInt8) : Array Value := (l.map fun x => Value.int .u8 x.toNat).toArray

/-- an array of bytes, its length in its type -/
structure B (n : Nat) where
  l : List UInt8
  h : l.length = n

def B.seg {n : Nat} (b : B n) : Seg := .arr n (byteA b.l) (by simp [byteA, b.h]) (by simp [byteA, Value.oneCell'])

theorem B.ext {n : Nat} {a b : B n} (h : a.l = b.l) : a = b := by
  cases a; cases b; simp at h; subst h; rfl

def B.zero (n : Nat) : B n := ⟨List.replicate n 0, by simp⟩

def flat : List Seg → Array Value
  | [] => #[]
  | s :: r => s.cs ++ flat r

def width : List Seg → Nat
  | [] => 0
  | s :: r => s.n + width r

theorem flat_one : ∀ (l : List Seg), ∀ v ∈ (flat l).toList, v.oneCell' = true
  | [], v, h => by simp [flat] at h
  | s :: r, v, h => by
    simp only [flat, Array.toList_append, List.mem_append] at h
    rcases h with h | h
    · exact List.all_eq_true.1 s.h1 v h
    · exact flat_one r v h

theorem flat_size : ∀ l, (flat l).size = width l
  | [] => rfl
  | s :: r => by simp [flat, width, flat_size r, s.h]

/-- the scalar at an offset -/
def at1 : List Seg → Nat → Option Value
  | [], _ => none
  | .one v _ :: _, 0 => some v
  | .one _ _ :: r, o + 1 => at1 r o
  | .arr n cs _ _ :: r, o => bif Nat.ble n o then at1 r (o - n) else cs[o]?

theorem at1_eq : ∀ (l : List Seg) (off : Nat), at1 l off = (flat l)[off]?
  | [], off => by simp [at1, flat]
  | .one v _ :: r, 0 => by
    unfold at1 flat
    rw [Array.getElem?_append_left (by simp [Seg.cs])]
    simp [Seg.cs]
  | .one v _ :: r, o + 1 => by
    unfold at1 flat
    rw [at1_eq r o, Array.getElem?_append_right (by simp [Seg.cs])]
    simp [Seg.cs]
  | .arr n cs hn _ :: r, off => by
    unfold at1 flat
    cases h : Nat.ble n off with
    | true =>
      have h' : n ≤ off := Nat.le_of_ble_eq_true h
      simp only [cond_true, at1_eq r, Seg.cs]
      rw [Array.getElem?_append_right (by rw [hn]; exact h'), hn]
    | false =>
      have h' : ¬ n ≤ off := fun hh => by rw [Nat.ble_eq_true_of_le hh] at h; cases h
      simp only [cond_false, Seg.cs]
      rw [Array.getElem?_append_left (by rw [hn]; omega)]

/-- take exactly so many cells -/
def takeS : List Seg → Nat → Option (List Seg)
  | _, 0 => some []
  | [], _ + 1 => none
  | s :: r, n + 1 => bif Nat.ble s.n (n + 1) then
      match takeS r (n + 1 - s.n) with
      | some q => some (s :: q)
      | none => none
    else none

def cut : List Seg → Nat → Nat → Option (List Seg)
  | l, 0, k => takeS l k
  | [], _ + 1, _ => none
  | s :: r, o + 1, k => bif Nat.ble s.n (o + 1) then cut r (o + 1 - s.n) k else none

theorem takeS_spec : ∀ (l : List Seg) (k : Nat) (q : List Seg), takeS l k = some q → (flat l).extract 0 k = flat q ∧ width q = k ∧ k ≤ width l
  | _, 0, q, h => by simp [takeS] at h; subst h; simp [flat, width]
  | [], k + 1, q, h => by simp [takeS] at h
  | s :: r, k + 1, q, h => by
    unfold takeS at h
    cases hb : Nat.ble s.n (k + 1) with
    | false => simp [hb] at h
    | true =>
      have hle : s.n ≤ k + 1 := Nat.le_of_ble_eq_true hb
      simp only [hb, cond_true] at h
      cases ht : takeS r (k + 1 - s.n) with
      | none => simp [ht] at h
      | some q' =>
        simp only [ht, Option.some.injEq] at h
        subst h
        obtain ⟨h1, h2, h3⟩ := takeS_spec r _ q' ht
        refine ⟨?_, by simp [width]; omega, by simp [width]; omega⟩
        simp only [flat]
        rw [Array.extract_append, ← h1, s.h]
        congr 1
        · rw [Array.extract_eq_self_iff.2]; right; exact ⟨rfl, by rw [s.h]; exact hle⟩
        · simp

theorem cut_spec : ∀ (l : List Seg) (o k : Nat) (q : List Seg), cut l o k = some q → (flat l).extract o (o + k) = flat q ∧ width q = k ∧ o + k ≤ width l
  | l, 0, k, q, h => by
    have : cut l 0 k = takeS l k := by cases l <;> rfl
    rw [this] at h
    simpa using takeS_spec l k q h
  | [], o + 1, k, q, h => by simp [cut] at h
  | s :: r, o + 1, k, q, h => by
    unfold cut at h
    cases hb : Nat.ble s.n (o + 1) with
    | false => simp [hb] at h
    | true =>
      have hle : s.n ≤ o + 1 := Nat.le_of_ble_eq_true hb
      simp only [hb, cond_true] at h
      obtain ⟨h1, h2, h3⟩ := cut_spec r _ k q h
      refine ⟨?_, h2, by simp [width]; omega⟩
      simp only [flat]
      rw [Array.extract_append, s.h, ← h1]
      have e1 : s.cs.extract (o + 1) (o + 1 + k) = #[] := by
        apply Array.extract_empty_of_size_le_start
        rw [s.h]; exact hle
      rw [e1, Array.empty_append]
      congr 1
      omega

/-- what a splice leaves -/
def dropS : List Seg → Nat → Option (List Seg)
  | l, 0 => some l
  | [], _ + 1 => none
  | s :: r, n + 1 => bif Nat.ble s.n (n + 1) then dropS r (n + 1 - s.n) else none

def spl : List Seg → Nat → List Seg → Nat → Option (List Seg)
  | l, 0, q, k => match dropS l k with
    | some r => some (q ++ r)
    | none => none
  | [], _ + 1, _, _ => none
  | s :: r, o + 1, q, k => bif Nat.ble s.n (o + 1) then
      match spl r (o + 1 - s.n) q k with
      | some x => some (s :: x)
      | none => none
    else none

theorem flat_append : ∀ (a b : List Seg), flat (a ++ b) = flat a ++ flat b
  | [], b => by simp [flat]
  | s :: a, b => by simp [flat, flat_append a b, Array.append_assoc]

theorem width_append : ∀ (a b : List Seg), width (a ++ b) = width a + width b
  | [], b => by simp [width]
  | s :: a, b => by simp [width, width_append a b]; omega

theorem dropS_spec : ∀ (l : List Seg) (k : Nat) (q : List Seg), dropS l k = some q → k ≤ width l ∧ flat q = (flat l).extract k (flat l).size
  | l, 0, q, h => by simp [dropS] at h; subst h; simp
  | [], k + 1, q, h => by simp [dropS] at h
  | s :: r, k + 1, q, h => by
    unfold dropS at h
    cases hb : Nat.ble s.n (k + 1) with
    | false => simp [hb] at h
    | true =>
      have hle : s.n ≤ k + 1 := Nat.le_of_ble_eq_true hb
      simp only [hb, cond_true] at h
      obtain ⟨h1, h2⟩ := dropS_spec r _ q h
      refine ⟨by simp [width]; omega, ?_⟩
      simp only [flat]
      rw [Array.extract_append, s.h, h2]
      have e1 : s.cs.extract (k + 1) (s.cs ++ flat r).size = #[] := by
        apply Array.extract_empty_of_size_le_start
        rw [s.h]; exact hle
      rw [e1, Array.empty_append]
      congr 1
      simp [s.h]

theorem spl_spec : ∀ (l : List Seg) (o k : Nat) (q x : List Seg), spl l o q k = some x → width q = k →
    o + k ≤ width l ∧ flat x = (flat l).extract 0 o ++ flat q ++ (flat l).extract (o + k) (flat l).size
  | l, 0, k, q, x, h, hq => by
    have hs : spl l 0 q k = match dropS l k with | some r => some (q ++ r) | none => none := by cases l <;> rfl
    rw [hs] at h
    cases hd : dropS l k with
    | none => simp [hd] at h
    | some r =>
      simp only [hd, Option.some.injEq] at h
      subst h
      obtain ⟨h1, h2⟩ := dropS_spec l k r hd
      refine ⟨by omega, ?_⟩
      simp [flat_append, h2]
  | [], o + 1, k, q, x, h, hq => by simp [spl] at h
  | s :: r, o + 1, k, q, x, h, hq => by
    unfold spl at h
    cases hb : Nat.ble s.n (o + 1) with
    | false => simp [hb] at h
    | true =>
      have hle : s.n ≤ o + 1 := Nat.le_of_ble_eq_true hb
      simp only [hb, cond_true] at h
      cases ht : spl r (o + 1 - s.n) q k with
      | none => simp [ht] at h
      | some x' =>
        simp only [ht, Option.some.injEq] at h
        subst h
        obtain ⟨h1, h2⟩ := spl_spec r _ k q x' ht hq
        refine ⟨by simp [width]; omega, ?_⟩
        simp only [flat]
        rw [h2, Array.extract_append, Array.extract_append, s.h]
        have e1 : s.cs.extract (o + 1 + k) (s.cs ++ flat r).size = #[] := by
          apply Array.extract_empty_of_size_le_start
          rw [s.h]; omega
        have e2 : s.cs.extract 0 (o + 1) = s.cs := by rw [Array.extract_eq_self_iff.2]; right; exact ⟨rfl, by rw [s.h]; exact hle⟩
        rw [e1, e2, Array.empty_append]
        simp only [Nat.zero_sub, Array.append_assoc, Array.size_append, s.h, Nat.add_sub_cancel_left]
        congr 3
        congr 1
        omega

end Go.SL
