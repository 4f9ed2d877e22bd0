/- A small logic for walks: the frame as a list of known slots, the memory as a list of owned resources. Words and their first laws. A small logic for walks: states, and the rules of code. A small logic for walks: the operations. A small logic for walks: operations that change the world, calls, regions whose order is drawn, loops. A small logic for walks: results, joins, composite literals, division. A small logic for walks: rows that grow, and strings out of them. A small logic for walks: equality of aggregates, arrays, function values. A small logic for walks: what arguments that came in read as. A small logic for walks: from arguments that came in to a law's own statement. -/
import Derived.WalkKit
import Derived.Lib.FrozenHead
import Derived.StillTailTactics
import Derived.OrdersHeld
import Derived.KernelRfl
import Derived.BigQuiet
import Derived.Deep.QuietTactic
import Derived.Deep.MidRow
import Derived.Deep.AppendSrc
import Derived.Lib.Builder
import Derived.Stop.BytesEq
import Derived.ProofKit
import Derived.OpenShut
import Derived.ChangeOld
import Derived.ShutString
import Derived.SizedLaws
namespace Go.SL
open Go.RowKit

/-! ### Plain lists -/
def look : List (Nat × Value) → Nat → Option Value
 | [], _ => none
 | (k, v) :: l, n => bif Nat.beq k n then some v else look l n

def nth {α : Type} : List α → Nat → Option α
 | [], _ => none
 | x :: _, 0 => some x
 | _ :: l, n + 1 => nth l n

theorem nth_eq {α : Type} : ∀ (l : List α) (i : Nat), nth l i = l[i]?
 | [], _ => by simp [nth]
 | x :: l, 0 => by simp [nth]
 | x :: l, i + 1 => by simp [nth, nth_eq l i]

def ev (l : List (Nat × Value)) : Operand → Option Value
 | .tmp t => look l t
 | .const v => some v
 | .global g => some (.pointer (some ⟨g, 0, none⟩))
 | .func f => some (.func (.func f) #[] #[])

def evs (l : List (Nat × Value)) : List Operand → Option (List Value)
 | [] => some []
 | x :: r => match ev l x, evs l r with
  | some v, some vs => some (v :: vs)
  | _, _ => none

/-! ### Segments of a block -/
inductive Seg where
 | one (v : Value) (h : v.oneCell' = true)
 | arr (n : Nat) (cs : Array Value) (h : cs.size = n) (h1 : cs.toList.all Value.oneCell' = true)

def Seg.n : Seg → Nat
 | .one _ _ => 1
 | .arr n _ _ _ => n
def Seg.cs : Seg → Array Value
 | .one v _ => #[v]
 | .arr _ cs _ _ => cs
theorem Seg.h (s : Seg) : s.cs.size = s.n := by cases s <;> simp_all [Seg.n, Seg.cs]
theorem Seg.h1 (s : Seg) : s.cs.toList.all Value.oneCell' = true := by cases s <;> simp_all [Seg.cs]

/-- a string by its bytes -/
def str (l : List UInt8) : Value := .string ⟨l.toArray⟩

/-- cells of bytes -/
def byteA (l : List UInt8) : Array Value := (l.map fun x => Value.int .u8 x.toNat).toArray

/-- an array of bytes, its length in its type -/
structure B (n : Nat) where
 l : List UInt8
 h : l.length = n

def B.seg {n : Nat} (b : B n) : Seg := .arr n (byteA b.l) (by simp [byteA, b.h]) (by simp [byteA, Value.oneCell'])

theorem B.ext {n : Nat} {a b : B n} (h : a.l = b.l) : a = b := by
 cases a; cases b; simp at h; subst h; rfl

def B.zero (n : Nat) : B n := ⟨List.replicate n 0, by simp⟩

def flat : List Seg → Array Value
 | [] => #[]
 | s :: r => s.cs ++ flat r

def width : List Seg → Nat
 | [] => 0
 | s :: r => s.n + width r

theorem flat_one : ∀ (l : List Seg), ∀ v ∈ (flat l).toList, v.oneCell' = true
 | [], v, h => by simp [flat] at h
 | s :: r, v, h => by
  simp only [flat, Array.toList_append, List.mem_append] at h
  rcases h with h | h
  ·
   exact List.all_eq_true.1 s.h1 v h
  ·
   exact flat_one r v h

theorem flat_size : ∀ l, (flat l).size = width l
 | [] => rfl
 | s :: r => by simp [flat, width, flat_size r, s.h]

/-- the scalar at an offset -/
def at1 : List Seg → Nat → Option Value
 | [], _ => none
 | .one v _ :: _, 0 => some v
 | .one _ _ :: r, o + 1 => at1 r o
 | .arr n cs _ _ :: r, o => bif Nat.ble n o then at1 r (o - n) else cs[o]?

theorem at1_eq : ∀ (l : List Seg) (off : Nat), at1 l off = (flat l)[off]?
  | [], off => by simp [at1, flat]
  | .one v _ :: r, 0 => by
    unfold at1 flat
    rw [Array.getElem?_append_left (by simp [Seg.cs])]
    simp [Seg.cs]
  | .one v _ :: r, o + 1 => by
    unfold at1 flat
    rw [at1_eq r o, Array.getElem?_append_right (by simp [Seg.cs])]
    simp [Seg.cs]
  | .arr n cs hn _ :: r, off => by
    unfold at1 flat
    cases h : Nat.ble n off with
    | true =>
      have h' : n ≤ off := Nat.le_of_ble_eq_true h
      simp only [cond_true, at1_eq r, Seg.cs]
      rw [Array.getElem?_append_right (by rw [hn]; exact h'), hn]
    | false =>
      have h' : ¬ n ≤ off := fun hh => by rw [Nat.ble_eq_true_of_le hh] at h; cases h
      simp only [cond_false, Seg.cs]
      rw [Array.getElem?_append_left (by rw [hn]; omega)]

/-- take exactly so many cells -/
def takeS : List Seg → Nat → Option (List Seg)
 | _, 0 => some []
 | [], _ + 1 => none
 | s :: r, n + 1 => bif Nat.ble s.n (n + 1) then
   match takeS r (n + 1 - s.n) with
   | some q => some (s :: q)
   | none => none
  else none

def cut : List Seg → Nat → Nat → Option (List Seg)
 | l, 0, k => takeS l k
 | [], _ + 1, _ => none
 | s :: r, o + 1, k => bif Nat.ble s.n (o + 1) then cut r (o + 1 - s.n) k else none

theorem takeS_spec : ∀ (l : List Seg) (k : Nat) (q : List Seg), takeS l k = some q → (flat l).extract 0 k = flat q ∧ width q = k ∧ k ≤ width l
  | _, 0, q, h => by simp [takeS] at h; subst h; simp [flat, width]
  | [], k + 1, q, h => by simp [takeS] at h
  | s :: r, k + 1, q, h => by
    unfold takeS at h
    cases hb : Nat.ble s.n (k + 1) with
    | false => simp [hb] at h
    | true =>
      have hle : s.n ≤ k + 1 := Nat.le_of_ble_eq_true hb
      simp only [hb, cond_true] at h
      cases ht : takeS r (k + 1 - s.n) with
      | none => simp [ht] at h
      | some q' =>
        simp only [ht, Option.some.injEq] at h
        subst h
        obtain ⟨h1, h2, h3⟩ := takeS_spec r _ q' ht
        refine ⟨?_, by simp [width]; omega, by simp [width]; omega⟩
        simp only [flat]
        rw [Array.extract_append, ← h1, s.h]
        congr 1
        · rw [Array.extract_eq_self_iff.2]; right; exact ⟨rfl, by rw [s.h]; exact hle⟩
        · simp

theorem cut_spec : ∀ (l : List Seg) (o k : Nat) (q : List Seg), cut l o k = some q → (flat l).extract o (o + k) = flat q ∧ width q = k ∧ o + k ≤ width l
  | l, 0, k, q, h => by
    have : cut l 0 k = takeS l k := by cases l <;> rfl
    rw [this] at h
    simpa using takeS_spec l k q h
  | [], o + 1, k, q, h => by simp [cut] at h
  | s :: r, o + 1, k, q, h => by
    unfold cut at h
    cases hb : Nat.ble s.n (o + 1) with
    | false => simp [hb] at h
    | true =>
      have hle : s.n ≤ o + 1 := Nat.le_of_ble_eq_true hb
      simp only [hb, cond_true] at h
      obtain ⟨h1, h2, h3⟩ := cut_spec r _ k q h
      refine ⟨?_, h2, by simp [width]; omega⟩
      simp only [flat]
      rw [Array.extract_append, s.h, ← h1]
      have e1 : s.cs.extract (o + 1) (o + 1 + k) = #[] := by
        apply Array.extract_empty_of_size_le_start
        rw [s.h]; exact hle
      rw [e1, Array.empty_append]
      congr 1
      omega

/-- what a splice leaves -/
def dropS : List Seg → Nat → Option (List Seg)
 | l, 0 => some l
 | [], _ + 1 => none
 | s :: r, n + 1 => bif Nat.ble s.n (n + 1) then dropS r (n + 1 - s.n) else none

def spl : List Seg → Nat → List Seg → Nat → Option (List Seg)
 | l, 0, q, k => match dropS l k with
  | some r => some (q ++ r)
  | none => none
 | [], _ + 1, _, _ => none
 | s :: r, o + 1, q, k => bif Nat.ble s.n (o + 1) then
   match spl r (o + 1 - s.n) q k with
   | some x => some (s :: x)
   | none => none
  else none

theorem flat_append : ∀ (a b : List Seg), flat (a ++ b) = flat a ++ flat b
 | [], b => by simp [flat]
 | s :: a, b => by simp [flat, flat_append a b, Array.append_assoc]

theorem width_append : ∀ (a b : List Seg), width (a ++ b) = width a + width b
 | [], b => by simp [width]
 | s :: a, b => by simp [width, width_append a b]; omega

theorem dropS_spec : ∀ (l : List Seg) (k : Nat) (q : List Seg), dropS l k = some q → k ≤ width l ∧ flat q = (flat l).extract k (flat l).size
  | l, 0, q, h => by simp [dropS] at h; subst h; simp
  | [], k + 1, q, h => by simp [dropS] at h
  | s :: r, k + 1, q, h => by
    unfold dropS at h
    cases hb : Nat.ble s.n (k + 1) with
    | false => simp [hb] at h
    | true =>
      have hle : s.n ≤ k + 1 := Nat.le_of_ble_eq_true hb
      simp only [hb, cond_true] at h
      obtain ⟨h1, h2⟩ := dropS_spec r _ q h
      refine ⟨by simp [width]; omega, ?_⟩
      simp only [flat]
      rw [Array.extract_append, s.h, h2]
      have e1 : s.cs.extract (k + 1) (s.cs ++ flat r).size = #[] := by
        apply Array.extract_empty_of_size_le_start
        rw [s.h]; exact hle
      rw [e1, Array.empty_append]
      congr 1
      simp [s.h]

theorem spl_spec : ∀ (l : List Seg) (o k : Nat) (q x : List Seg), spl l o q k = some x → width q = k →
    o + k ≤ width l ∧ flat x = (flat l).extract 0 o ++ flat q ++ (flat l).extract (o + k) (flat l).size
  | l, 0, k, q, x, h, hq => by
    have hs : spl l 0 q k = match dropS l k with | some r => some (q ++ r) | none => none := by cases l <;> rfl
    rw [hs] at h
    cases hd : dropS l k with
    | none => simp [hd] at h
    | some r =>
      simp only [hd, Option.some.injEq] at h
      subst h
      obtain ⟨h1, h2⟩ := dropS_spec l k r hd
      refine ⟨by omega, ?_⟩
      simp [flat_append, h2]
  | [], o + 1, k, q, x, h, hq => by simp [spl] at h
  | s :: r, o + 1, k, q, x, h, hq => by
    unfold spl at h
    cases hb : Nat.ble s.n (o + 1) with
    | false => simp [hb] at h
    | true =>
      have hle : s.n ≤ o + 1 := Nat.le_of_ble_eq_true hb
      simp only [hb, cond_true] at h
      cases ht : spl r (o + 1 - s.n) q k with
      | none => simp [ht] at h
      | some x' =>
        simp only [ht, Option.some.injEq] at h
        subst h
        obtain ⟨h1, h2⟩ := spl_spec r _ k q x' ht hq
        refine ⟨by simp [width]; omega, ?_⟩
        simp only [flat]
        rw [h2, Array.extract_append, Array.extract_append, s.h]
        have e1 : s.cs.extract (o + 1 + k) (s.cs ++ flat r).size = #[] := by
          apply Array.extract_empty_of_size_le_start
          rw [s.h]; omega
        have e2 : s.cs.extract 0 (o + 1) = s.cs := by rw [Array.extract_eq_self_iff.2]; right; exact ⟨rfl, by rw [s.h]; exact hle⟩
        rw [e1, e2, Array.empty_append]
        simp only [Nat.zero_sub, Array.append_assoc, Array.size_append, s.h, Nat.add_sub_cancel_left]
        congr 3
        congr 1
        omega

end Go.SL
namespace Go.SL
open Go.RowKit

/-! ### The frame -/
structure Has (n : Nat) (l : List (Nat × Value)) (a : Act) : Prop where
 size : a.tmps.size = n
 defers : a.defers = []
 get : ∀ d v, look l d = some v → a.tmps[d]? = some v

theorem Has.tmp {n : Nat} {l : List (Nat × Value)} {a : Act} (h : Has n l a) {d : Nat} {v : Value} (hd : look l d = some v) : a.eval (.tmp d) = v := by
 simp [Act.eval, h.get d v hd]

theorem Has.ev {n : Nat} {l : List (Nat × Value)} {a : Act} (h : Has n l a) {x : Operand} {v : Value} (hx : ev l x = some v) : a.eval x = v := by
 cases x with
 | tmp t => exact h.tmp hx
 | const c => simpa [SL.ev, Act.eval] using hx
 | global g => simpa [SL.ev, Act.eval] using hx
 | func f => simpa [SL.ev, Act.eval] using hx

theorem Has.evs {n : Nat} {l : List (Nat × Value)} {a : Act} (h : Has n l a) : ∀ {xs : List Operand} {vs : List Value}, evs l xs = some vs → xs.map a.eval = vs
  | [], vs, e => by simp [SL.evs] at e; simp [← e]
  | x :: xs, vs, e => by
    unfold SL.evs at e
    cases h1 : SL.ev l x with
    | none => simp [h1] at e
    | some v =>
      cases h2 : SL.evs l xs with
      | none => simp [h1, h2] at e
      | some ws =>
        simp only [h1, h2, Option.some.injEq] at e
        subst e
        simp [h.ev h1, h.evs h2]

theorem Has.put {n : Nat} {l : List (Nat × Value)} {a : Act} (h : Has n l a) {d : Nat} (v : Value) (hd : Nat.ble (d + 1) n = true) : Has n ((d, v) :: l) (a.put (some d) v) := by
 have hd' : d < n := Nat.le_of_ble_eq_true hd
 refine ⟨by simp [Act.put, h.size], h.defers, fun e u hu => ?_⟩
 unfold look at hu
 cases hb : Nat.beq d e with
 | true =>
  have : d = e := Nat.eq_of_beq_eq_true hb
  subst this
  simp at hu
  subst hu
  simp [Act.put, h.size, hd']
 | false =>
  have hne : d ≠ e := fun he => by subst he; simp at hb
  simp only [hb, cond_false] at hu
  simp [Act.put, Array.getElem?_setIfInBounds_ne hne, h.get e u hu]

def subL (l : List (Nat × Value)) : List (Nat × Value) → Prop
 | [] => True
 | p :: r => look l p.1 = some p.2 ∧ subL l r

theorem Has.sub {n : Nat} {l l' : List (Nat × Value)} {a : Act} (h : Has n l a) (hs : subL l l') : Has n l' a := by
  refine ⟨h.size, h.defers, fun d v hv => ?_⟩
  induction l' with
  | nil => simp [look] at hv
  | cons p r ih =>
    unfold look at hv
    cases hb : Nat.beq p.1 d with
    | true =>
      have : p.1 = d := Nat.eq_of_beq_eq_true hb
      simp [hb] at hv
      subst hv this
      exact h.get _ _ hs.1
    | false =>
      simp only [hb, cond_false] at hv
      exact ih hs.2 hv

/-! ### Resources -/
inductive Res where
 | blk (b : Nat) (o : Obj)
 | row (v : Value) (e : TypeId) (sz n : Nat) (xs : List Value)

def Res.block : Res → Option Nat
 | .blk b _ => some b
 | .row v _ _ _ _ => v.ownBlock

def Res.holds (w : World) : Res → Prop
 | .blk b o => w.heap[b]? = some o
 | .row v e sz n xs => w.ownsRowF 0 e sz v n xs

/-- All old blocks but those in S are as they were. -/
structure Keeps (S : Nat → Prop) (w w' : World) : Prop where
 os : w'.os = w.os
 tape : w'.tape = w.tape
 output : w'.output = w.output
 size : w.heap.size ≤ w'.heap.size
 block : ∀ k, k < w.heap.size → ¬ S k → w'.heap[k]? = w.heap[k]?

def none1 : Nat → Prop := fun _ => False

theorem Keeps.refl (S : Nat → Prop) (w : World) : Keeps S w w := ⟨rfl, rfl, rfl, Nat.le_refl _, fun _ _ _ => rfl⟩
theorem Keeps.trans {S : Nat → Prop} {a b c : World} (h : Keeps S a b) (k : Keeps S b c) : Keeps S a c :=
 ⟨k.os.trans h.os, k.tape.trans h.tape, k.output.trans h.output, Nat.le_trans h.size k.size, fun i hi hn => (k.block i (Nat.lt_of_lt_of_le hi h.size) hn).trans (h.block i hi hn)⟩
theorem Keeps.mono {S S' : Nat → Prop} {w w' : World} (h : Keeps S w w') (hs : ∀ k, S k → S' k) : Keeps S' w w' :=
 ⟨h.os, h.tape, h.output, h.size, fun k hk hn => h.block k hk (fun hh => hn (hs k hh))⟩
theorem Keeps.drew (S : Nat → Prop) (w : World) : Keeps S w w.drew := ⟨rfl, rfl, rfl, Nat.le_refl _, fun _ _ _ => rfl⟩
theorem Keeps.of_below {w w' : World} (h : Below w.heap.size w w') : Keeps none1 w w' := ⟨h.os, h.tape, h.output, h.size, fun k hk _ => h.block k hk⟩
theorem Keeps.below {w w' : World} (h : Keeps none1 w w') : Below w.heap.size w w' := ⟨h.os, h.tape, h.output, h.size, fun k hk => h.block k hk (fun hh => hh)⟩
theorem Keeps.alloc (S : Nat → Prop) (w : World) (o : Obj) : Keeps S w (w.alloc o) :=
 ⟨rfl, rfl, rfl, by simp, fun k hk _ => Below.heap_alloc w o k hk⟩

theorem Res.block_lt {w : World} {r : Res} (h : r.holds w) {k : Nat} (hk : r.block = some k) : k < w.heap.size := by
 cases r with
 | blk b o =>
  simp only [Res.block, Option.some.injEq] at hk
  subst hk
  exact (Array.getElem?_eq_some_iff.1 h).1
 | row v e sz n xs => exact (World.ownsRowF.lt h k hk).2

theorem Res.keeps {S : Nat → Prop} {w w' : World} {r : Res} (h : r.holds w) (hk : Keeps S w w') (hn : ∀ k, r.block = some k → ¬ S k) : r.holds w' := by
 cases r with
 | blk b o =>
  have hb : b < w.heap.size := Res.block_lt (r := .blk b o) h rfl
  show w'.heap[b]? = some o
  rw [hk.block b hb (hn b rfl)]
  exact h
 | row v e sz n xs =>
  refine ⟨h.1, ?_⟩
  rcases h.2 with hh | ⟨g, cap, cur, fz, rfl, hb, hg, rest⟩
  ·
   exact .inl hh
  ·
   refine .inr ⟨g, cap, cur, fz, rfl, hb, ?_, rest⟩
   have hgs : g < w.heap.size := (Array.getElem?_eq_some_iff.1 hg).1
   rw [hk.block g hgs (hn g rfl)]
   exact hg

/-- The resources m, disjoint, each writable: new since w0, or in W. -/
structure Mem (W : Nat → Prop) (w0 : World) (m : List Res) (w : World) : Prop where
 holds : ∀ r ∈ m, r.holds w
 may : ∀ r ∈ m, ∀ k, r.block = some k → w0.heap.size ≤ k ∨ W k
 apart : m.Pairwise fun r s => ∀ k, r.block = some k → s.block ≠ some k

structure St (n : Nat) (W : Nat → Prop) (w0 : World) (l : List (Nat × Value)) (m : List Res) (a : Act) (w : World) : Prop where
 has : Has n l a
 mem : Mem W w0 m w
 keeps : Keeps W w0 w

def Ok (n : Nat) (W : Nat → Prop) (w0 : World) (l : List (Nat × Value)) (m : List Res) (K : Act → World → Prop) : Prop :=
 ∀ a w, St n W w0 l m a w → K a w

section
variable {P : Program} {n : Nat} {W : Nat → Prop} {w0 : World} {l : List (Nat × Value)} {m : List Res} {ops : Array Oper} {Q : Exit → Act → World → Prop} {rest : List Oper} {o : Oper}

theorem Mem.nil (W : Nat → Prop) (w0 w : World) : Mem W w0 [] w := ⟨by simp, by simp, .nil⟩

/-- a new resource in front, in a world that keeps all old blocks -/
theorem Mem.cons_new {r : Res} {w w' : World} (h : Mem W w0 m w) (hk : Keeps none1 w w') (h0 : w0.heap.size ≤ w.heap.size) (hr : r.holds w') (hb : ∀ k, r.block = some k → w.heap.size ≤ k) : Mem W w0 (r :: m) w' := by
 refine ⟨?_, ?_, ?_⟩
 ·
  intro s hs
  rcases List.mem_cons.1 hs with rfl | hs
  ·
   exact hr
  ·
   exact Res.keeps (h.holds s hs) hk (fun _ _ hh => hh)
 ·
  intro s hs k hk'
  rcases List.mem_cons.1 hs with rfl | hs
  ·
   exact .inl (Nat.le_trans h0 (hb k hk'))
  ·
   exact h.may s hs k hk'
 ·
  refine List.Pairwise.cons (fun s hs k hk1 hk2 => ?_) h.apart
  have := Res.block_lt (h.holds s hs) hk2
  have := hb k hk1
  omega

theorem Mem.keep {w w' : World} (h : Mem W w0 m w) (hk : Keeps none1 w w') : Mem W w0 m w' :=
 ⟨fun s hs => Res.keeps (h.holds s hs) hk (fun _ _ hh => hh), h.may, h.apart⟩

theorem Keeps.weak {S : Nat → Prop} {w w' : World} (h : Keeps none1 w w') : Keeps S w w' := h.mono fun _ hh => hh.elim

theorem St.keep {a : Act} {w w' : World} (h : St n W w0 l m a w) (hk : Keeps none1 w w') : St n W w0 l m a w' :=
 ⟨h.has, h.mem.keep hk, h.keeps.trans hk.weak⟩

theorem St.put {a : Act} {w : World} (h : St n W w0 l m a w) {d : Nat} (v : Value) (hd : Nat.ble (d + 1) n = true) : St n W w0 ((d, v) :: l) m (a.put (some d) v) w :=
 ⟨h.has.put v hd, h.mem, h.keeps⟩

def selM (m : List Res) : List Nat → List Res
 | [] => []
 | i :: r => match nth m i with
  | some x => x :: selM m r
  | none => selM m r

/-- numbers without repetition -/
def nod : List Nat → Bool
 | [] => true
 | i :: r => !(r.any (Nat.beq i)) && nod r

theorem mem_selM : ∀ (is : List Nat) (r : Res), r ∈ selM m is → r ∈ m
  | [], r, h => by simp [selM] at h
  | i :: is, r, h => by
    unfold selM at h
    cases hn : nth m i with
    | none => simp only [hn] at h; exact mem_selM is r h
    | some x =>
      simp only [hn, List.mem_cons] at h
      rcases h with rfl | h
      · rw [nth_eq] at hn; exact List.mem_of_getElem? hn
      · exact mem_selM is r h

theorem mem_selM_idx : ∀ (is : List Nat) (r : Res), r ∈ selM m is → ∃ i ∈ is, nth m i = some r
  | [], r, h => by simp [selM] at h
  | i :: is, r, h => by
    unfold selM at h
    cases hn : nth m i with
    | none =>
      simp only [hn] at h
      obtain ⟨j, hj, hr⟩ := mem_selM_idx is r h
      exact ⟨j, List.mem_cons_of_mem _ hj, hr⟩
    | some x =>
      simp only [hn, List.mem_cons] at h
      rcases h with rfl | h
      · exact ⟨i, List.mem_cons_self, hn⟩
      · obtain ⟨j, hj, hr⟩ := mem_selM_idx is r h
        exact ⟨j, List.mem_cons_of_mem _ hj, hr⟩

theorem Mem.apart_idx {w : World} (h : Mem W w0 m w) {i j : Nat} {r s : Res} (hi : nth m i = some r) (hj : nth m j = some s) (hne : i ≠ j) {k : Nat} (hk : r.block = some k) : s.block ≠ some k := by
 rw [nth_eq] at hi hj
 have h1 := (List.getElem?_eq_some_iff.1 hi)
 have h2 := (List.getElem?_eq_some_iff.1 hj)
 obtain ⟨hi1, hi2⟩ := h1
 obtain ⟨hj1, hj2⟩ := h2
 have hpw := List.pairwise_iff_getElem.1 h.apart
 rcases Nat.lt_or_ge i j with hlt | hge
 ·
  have := hpw i j hi1 hj1 hlt k (by rw [hi2]; exact hk)
  rwa [hj2] at this
 ·
  intro hs
  have := hpw j i hj1 hi1 (by omega) k (by rw [hj2]; exact hs)
  rw [hi2] at this
  exact this hk

theorem Mem.sel {w : World} (h : Mem W w0 m w) (is : List Nat) (ha : nod is = true) : Mem W w0 (selM m is) w := by
  refine ⟨fun r hr => h.holds r (mem_selM is r hr), fun r hr => h.may r (mem_selM is r hr), ?_⟩
  induction is with
  | nil => simp [selM]
  | cons i is ih =>
    simp only [nod, Bool.and_eq_true, Bool.not_eq_true', List.any_eq_false] at ha
    unfold selM
    cases hn : nth m i with
    | none => exact ih ha.2
    | some x =>
      refine List.Pairwise.cons (fun s hs k hk => ?_) (ih ha.2)
      obtain ⟨j, hj, hjn⟩ := mem_selM_idx is s hs
      refine h.apart_idx hn hjn (fun e => ?_) hk
      subst e
      have := ha.1 i hj
      simp at this

/-- To forget slots and resources. -/
theorem Ok.weak {K : Act → World → Prop} (l' : List (Nat × Value)) (is : List Nat) {m' : List Res} (hs : subL l l') (hm : selM m is = m') (ha : nod is = true) (h : Ok n W w0 l' m' K) : Ok n W w0 l m K :=
 fun a w st => h a w ⟨st.has.sub hs, hm ▸ st.mem.sel is ha, st.keeps⟩

theorem Ok.slots {K : Act → World → Prop} (l' : List (Nat × Value)) (hs : subL l l') (h : Ok n W w0 l' m K) : Ok n W w0 l m K :=
 fun a w st => h a w ⟨st.has.sub hs, st.mem, st.keeps⟩

/-! ### Code -/
theorem Ok.seq {x y : Code} (h : ∀ K : Act → World → Prop, (∀ l m, Ok n W w0 l m (y.wp P Q) → Ok n W w0 l m K) → Ok n W w0 l m (x.wp P (Exit.then K Q))) : Ok n W w0 l m ((Code.seq x y).wp P Q) :=
 fun a w st => wp_seq_k fun K hK => h K (fun _ _ hy a w st => hK a w (hy a w st)) a w st

theorem Ok.skip {K : Act → World → Prop} (h : Ok n W w0 l m K) : Ok n W w0 l m (Code.skip.wp P (Exit.then K Q)) := fun a w st => wp_skip (h a w st)
theorem Ok.skip' (h : Ok n W w0 l m (Q .normal)) : Ok n W w0 l m (Code.skip.wp P Q) := fun a w st => wp_skip (h a w st)
theorem Ok.label {k : Nat} (h : Ok n W w0 l m (Q .normal)) : Ok n W w0 l m ((Code.label k).wp P Q) := fun a w st => wp_label (h a w st)

theorem Ok.cond {c : Operand} {x y : Code} {t : Bool} (hc : ev l c = some (.bool t)) (ht : t = true → Ok n W w0 l m (x.wp P Q)) (hf : t = false → Ok n W w0 l m (y.wp P Q)) : Ok n W w0 l m ((Code.cond c x y).wp P Q) :=
 fun a w st => wp_cond_split (st.has.ev hc) (fun h => ht h a w st) (fun h => hf h a w st)
theorem Ok.condT {c : Operand} {x y : Code} (hc : ev l c = some (.bool true)) (ht : Ok n W w0 l m (x.wp P Q)) : Ok n W w0 l m ((Code.cond c x y).wp P Q) :=
 fun a w st => wp_cond_true (st.has.ev hc) (ht a w st)
theorem Ok.condF {c : Operand} {x y : Code} (hc : ev l c = some (.bool false)) (hf : Ok n W w0 l m (y.wp P Q)) : Ok n W w0 l m ((Code.cond c x y).wp P Q) :=
 fun a w st => wp_cond_false (st.has.ev hc) (hf a w st)

theorem Ok.block {id : Nat} {c : Code} (h : Ok n W w0 l m (c.wp P (Exit.inBlock id Q))) : Ok n W w0 l m ((Code.block id c).wp P Q) :=
 fun a w st => wp_block (h a w st)
theorem Ok.scope {c : Code} (h : Ok n W w0 l m (c.wp P (Exit.noGoto Q))) : Ok n W w0 l m ((Code.scope c).wp P Q) :=
 fun a w st => wp_scope_straight (h a w st)
theorem Ok.exit {id : Nat} (h : Ok n W w0 l m (Q (.exit id))) : Ok n W w0 l m ((Code.exit id).wp P Q) := fun a w st => wp_exit (h a w st)

/-- the end of a function -/
theorem Ok.ret {fn : Func} {R : Ending → World → Prop} {v : Value} (hQ : ∀ a w, bodyPost P fn R .ret a w → Q .ret a w)
  (hr : ∀ a w, St n W w0 l m a w → (results fn a.tmps).run P w = .ok v w)
  (h : ∀ w, Mem W w0 m w → Keeps W w0 w → R (.returned v) w) : Ok n W w0 l m (Code.ret.wp P Q) :=
 fun a w st => wp_ret (hQ a w ⟨st.has.defers, v, hr a w st, h w st.mem st.keeps⟩)

theorem Ok.fin {fn : Func} {R : Ending → World → Prop} {v : Value} (hQ : ∀ a w, bodyPost P fn R .normal a w → Q .normal a w)
  (hr : ∀ a w, St n W w0 l m a w → (results fn a.tmps).run P w = .ok v w)
  (h : ∀ w, Mem W w0 m w → Keeps W w0 w → R (.returned v) w) : Ok n W w0 l m (Q .normal) :=
 fun a w st => hQ a w ⟨st.has.defers, v, hr a w st, h w st.mem st.keeps⟩

theorem res0 {fn : Func} (h : fn.results = #[]) : ∀ a w, St n W w0 l m a w → (results fn a.tmps).run P w = .ok (.tuple #[]) w :=
 fun a w _ => results_none h a.tmps P w
theorem res1 {fn : Func} {t : Tmp} {v : Value} (h : fn.results = #[.tmp t]) (hv : look l t = some v) : ∀ a w, St n W w0 l m a w → (results fn a.tmps).run P w = .ok v w :=
 fun a w st => by rw [results_tmp h a.tmps P w]; simp [st.has.get t v hv]
theorem res2 {fn : Func} {t u : Tmp} {v x : Value} (h : fn.results = #[.tmp t, .tmp u]) (hv : look l t = some v) (hx : look l u = some x) : ∀ a w, St n W w0 l m a w → (results fn a.tmps).run P w = .ok (.tuple #[v, x]) w :=
 fun a w st => by rw [results_tmp2 h a.tmps P w]; simp [st.has.get t v hv, st.has.get u x hx]

/-! ### Entry -/
def enum : Nat → List Value → List (Nat × Value)
 | _, [] => []
 | k, v :: r => (k, v) :: enum (k + 1) r

theorem look_enum : ∀ (vs : List Value) (k d : Nat) (v : Value), look (enum k vs) d = some v → k ≤ d ∧ vs[d - k]? = some v
  | [], k, d, v, h => by simp [enum, look] at h
  | x :: r, k, d, v, h => by
    unfold enum look at h
    cases hb : Nat.beq k d with
    | true =>
      have : k = d := Nat.eq_of_beq_eq_true hb
      subst this
      simp at h
      simp [h]
    | false =>
      have hne : k ≠ d := fun he => by subst he; simp at hb
      simp only [hb, cond_false] at h
      obtain ⟨h1, h2⟩ := look_enum r (k + 1) d v h
      refine ⟨by omega, ?_⟩
      rw [show d - k = (d - (k + 1)) + 1 by omega]
      simpa using h2

theorem calls_ok {f : FuncId} {fn : Func} {c : Code} {args : List Value} {R : Ending → World → Prop} (hf : P.funcs[f]? = some fn) (hb : fn.body = some c) (hn : fn.ntmps = n) (hl : Nat.ble args.length n = true)
  (hm : Mem W w0 m w0) (h : Ok n W w0 (enum 0 args) m (c.wp P (bodyPost P fn R))) : Calls P f args.toArray w0 R := by
 refine calls_of_wp hf hb ?_
 refine h _ _ ⟨⟨?_, rfl, ?_⟩, hm, Keeps.refl W w0⟩
 ·
  have := Nat.le_of_ble_eq_true hl
  simp [hn]
  omega
 ·
  intro d v hd
  obtain ⟨_, h2⟩ := look_enum args 0 d v hd
  simp only [Nat.sub_zero] at h2
  have hlt : d < args.length := (List.getElem?_eq_some_iff.1 h2).1
  show (args.toArray ++ Array.replicate _ undef)[d]? = some v
  rw [Array.getElem?_append_left (by simpa using hlt)]
  simpa using h2

/-! ### Regions -/
theorem Ok.region {id : Nat} {os : List Oper} (h : Ok n W w0 l m (wpList P os.toArray Q os)) : Ok n W w0 l m ((Code.region id os.toArray false).wp P Q) :=
 fun a w st => wp_region_lit (h a w st)

theorem Ok.nil (h : Ok n W w0 l m (Q .normal)) : Ok n W w0 l m (wpList P ops Q []) := fun a w st => wpList_nil (h a w st)

/-- An operation that yields v and leaves the world as it is. -/
def Pure (P : Program) (n : Nat) (W : Nat → Prop) (w0 : World) (l : List (Nat × Value)) (m : List Res) (o : Oper) (v : Value) : Prop :=
 ∀ a w, St n W w0 l m a w → (execOp a.eval o).run P w = .ok (.value v) w

theorem Ok.op {d : Nat} {v : Value} (hg : o.guard = none) (hd : o.dst = some d) (hdn : Nat.ble (d + 1) n = true) (hp : Pure P n W w0 l m o v) (h : Ok n W w0 ((d, v) :: l) m (wpList P ops Q rest)) : Ok n W w0 l m (wpList P ops Q (o :: rest)) := by
 intro a w st
 refine wpList_plain hg fun K hK => ?_
 unfold Oper.wp
 rw [hp a w st, Oper.upon_value, hd]
 exact hK _ _ (h _ _ (st.put v hdn))

theorem wanted_of {g : Nat} {want c : Bool} {og : Oper} {dg : Nat} {a : Act} {w : World} (hg : o.guard = some (g, want)) (ho : ops[g]? = some og) (hd : og.dst = some dg) (hc : look l dg = some (.bool c)) (st : St n W w0 l m a w) : Region.wanted o (yielded ops a.tmps) = (c == want) := by
 have h1 := st.has.get dg _ hc
 simp [Region.wanted, hg, yielded, ho, hd, h1]

/-- a guarded operation that is carried out -/
theorem Ok.opG {d g dg : Nat} {want c : Bool} {og : Oper} {v : Value} (hg : o.guard = some (g, want)) (ho : ops[g]? = some og) (hgd : og.dst = some dg) (hc : look l dg = some (.bool c)) (hcw : (c == want) = true)
  (hd : o.dst = some d) (hdn : Nat.ble (d + 1) n = true) (hp : Pure P n W w0 l m o v) (h : Ok n W w0 ((d, v) :: l) m (wpList P ops Q rest)) : Ok n W w0 l m (wpList P ops Q (o :: rest)) := by
 intro a w st
 refine wpList_step fun K hK => ?_
 rw [wanted_of hg ho hgd hc st, if_pos hcw]
 unfold Oper.wp
 rw [hp a w st, Oper.upon_value, hd]
 exact hK _ _ (h _ _ (st.put v hdn))

/-- a guarded operation that is passed over -/
theorem Ok.opS {d g dg : Nat} {want c : Bool} {og : Oper} (hg : o.guard = some (g, want)) (ho : ops[g]? = some og) (hgd : og.dst = some dg) (hc : look l dg = some (.bool c)) (hcw : (c == want) = false)
  (hd : o.dst = some d) (hdn : Nat.ble (d + 1) n = true) (h : Ok n W w0 ((d, undef) :: l) m (wpList P ops Q rest)) : Ok n W w0 l m (wpList P ops Q (o :: rest)) := by
 intro a w st
 refine wpList_step fun K hK => ?_
 rw [wanted_of hg ho hgd hc st, if_neg (by simp [hcw]), hd]
 exact hK _ _ (h _ _ (st.put undef hdn))

theorem wanted_un {g : Nat} {want : Bool} {og : Oper} {dg : Nat} {a : Act} {w : World} (hg : o.guard = some (g, want)) (ho : ops[g]? = some og) (hd : og.dst = some dg) (hc : look l dg = some undef) (st : St n W w0 l m a w) : Region.wanted o (yielded ops a.tmps) = false := by
 have h1 := st.has.get dg _ hc
 simp [Region.wanted, hg, yielded, ho, hd, h1, undef]

/-- a guarded operation whose guard was passed over -/
theorem Ok.opU {d g dg : Nat} {want : Bool} {og : Oper} (hg : o.guard = some (g, want)) (ho : ops[g]? = some og) (hgd : og.dst = some dg) (hc : look l dg = some undef)
  (hd : o.dst = some d) (hdn : Nat.ble (d + 1) n = true) (h : Ok n W w0 ((d, undef) :: l) m (wpList P ops Q rest)) : Ok n W w0 l m (wpList P ops Q (o :: rest)) := by
 intro a w st
 refine wpList_step fun K hK => ?_
 rw [wanted_un hg ho hgd hc st, if_neg (by simp), hd]
 exact hK _ _ (h _ _ (st.put undef hdn))

theorem Has.dup {a : Act} (h : Has n l a) {d : Nat} {v : Value} (hd : look l d = some v) : Has n ((d, v) :: l) a := by
 refine ⟨h.size, h.defers, fun e u hu => ?_⟩
 unfold look at hu
 cases hb : Nat.beq d e with
 | true =>
  have : d = e := Nat.eq_of_beq_eq_true hb
  subst this
  simp at hu
  subst hu
  exact h.get _ _ hd
 | false =>
  simp only [hb, cond_false] at hu
  exact h.get _ _ hu

/-- the two values of a slot -/
theorem Ok.split {K : Act → World → Prop} {d : Nat} {c : Bool} (hc : look l d = some (.bool c)) (ht : c = true → Ok n W w0 ((d, .bool true) :: l) m K) (hf : c = false → Ok n W w0 ((d, .bool false) :: l) m K) : Ok n W w0 l m K := by
 cases c with
 | true => exact fun a w st => ht rfl a w ⟨st.has.dup hc, st.mem, st.keeps⟩
 | false => exact fun a w st => hf rfl a w ⟨st.has.dup hc, st.mem, st.keeps⟩
end
end Go.SL
namespace Go.SL
open Go.RowKit

/-! ### Strings by their bytes -/
theorem str_toList (l : List UInt8) : (⟨l.toArray⟩ : ByteArray).toList = l := by rw [ByteArray.toList_eq]
theorem str_size (l : List UInt8) : (⟨l.toArray⟩ : ByteArray).size = l.length := by simp [ByteArray.size]
theorem str_append (a b : List UInt8) : (⟨a.toArray⟩ : ByteArray) ++ ⟨b.toArray⟩ = ⟨(a ++ b).toArray⟩ := by
 apply ByteArray.ext; simp
theorem str_extract (l : List UInt8) (i j : Nat) : (⟨l.toArray⟩ : ByteArray).extract i j = ⟨((l.take j).drop i).toArray⟩ := by
 apply ByteArray.ext
 simp [ByteArray.data_extract]
 rw [List.drop_take]

/-! ### What is closed -/
def aggB (P : Program) (t : TypeId) : Option Bool :=
 match P.underlying t with
 | some (.struct _) => some true
 | some (.array _ _) => some true
 | some _ => some false
 | none => none

def fOff (P : Program) (s : TypeId) (f : Nat) : Option Nat :=
 match P.underlying s with
 | some (.struct fs) => match fs[f]? with
  | some fd => match P.info? fd.type with
   | some i => if i.size = 0 then none else some fd.offset
   | none => none
  | none => none
 | _ => none

def csz (P : Program) (t : TypeId) : Option Nat := (P.info? t).map (·.size)

def zcells (P : Program) (t : TypeId) : Option (Array Value) := ((P.info? t).bind (·.zero)).map (·.cells)

def entersB (P : Program) (f : FuncId) : Bool :=
 match P.funcs[f]? with
 | some fn => !(fn.name == "runtime.NumGoroutine") && fn.body.isSome
 | none => false

section
variable {P : Program} {n : Nat} {W : Nat → Prop} {w0 : World} {l : List (Nat × Value)} {m : List Res} {ops : Array Oper} {Q : Exit → Act → World → Prop} {rest : List Oper} {o : Oper}

theorem run_isAgg {t : TypeId} {b : Bool} (h : aggB P t = some b) (w : World) : (isAgg t).run P w = .ok b w := by
 unfold aggB at h
 unfold isAgg
 cases hu : P.underlying t with
 | none => simp [hu] at h
 | some d =>
  simp only [hu] at h
  rw [Sem.run_bind, run_underlying hu w]
  cases d <;> simp_all

theorem run_sizeOf {t : TypeId} {k : Nat} (h : csz P t = some k) (w : World) : (sizeOf t).run P w = .ok k w := by
 unfold csz at h
 cases hi : P.info? t with
 | none => simp [hi] at h
 | some i => simp [hi] at h; subst h; simp [sizeOf, typeInfo, hi]

theorem run_zeroValue {t : TypeId} {cs : Array Value} (h : zcells P t = some cs) (w : World) : ∃ v, (zeroValue t).run P w = .ok v w ∧ v.cells = cs := by
 unfold zcells at h
 cases hi : P.info? t with
 | none => simp [hi] at h
 | some i =>
  cases hz : i.zero with
  | none => simp [hi, hz] at h
  | some v => simp [hi, hz] at h; exact ⟨v, by simp [zeroValue, typeInfo, hi, hz], h⟩

theorem run_fieldAt {s : TypeId} {f k : Nat} (h : fOff P s f = some k) (b off : Nat) (w : World) : (Instr.fieldAt s (.pointer (some ⟨b, off, none⟩)) f).run P w = .ok (.pointer (some ⟨b, off + k, none⟩)) w := by
  unfold fOff at h
  cases hu : P.underlying s with
  | none => simp [hu] at h
  | some d =>
    cases d <;> simp only [hu] at h <;> try (simp at h; done)
    rename_i fs
    cases hf : fs[f]? with
    | none => simp [hf] at h
    | some fd =>
      simp only [hf] at h
      cases hi : P.info? fd.type with
      | none => simp [hi] at h
      | some i =>
        simp only [hi] at h
        by_cases h0 : i.size = 0
        · simp [h0] at h
        · rw [if_neg h0] at h
          simp only [Option.some.injEq] at h
          subst h
          have hs : (sizeOf fd.type).run P w = .ok i.size w := by simp [sizeOf, typeInfo, hi]
          simp [Instr.fieldAt, run_underlying hu, hf, Instr.sureAddr, fieldPlace, hs, h0, Addr.add_mid]

/-! ### Operations that yield -/
theorem Pure.mk {v : Value} (h : ∀ a w, St n W w0 l m a w → (execOp a.eval o).run P w = .ok (.value v) w) : Pure P n W w0 l m o v := h

theorem Pure.move {x : Operand} {v : Value} (ho : o.op = .move x) (hx : ev l x = some v) : Pure P n W w0 l m o v :=
 fun a w st => by simp [execOp, ho, st.has.ev hx]

theorem Pure.assign {x : Operand} {v : Value} (ho : o.op = .assign x) (hx : ev l x = some v) : Pure P n W w0 l m o v :=
 fun a w st => by simp [execOp, ho, st.has.ev hx]

theorem Pure.pick {c x y : Operand} {t : Bool} {u v : Value} (ho : o.op = .pick c x y) (hc : ev l c = some (.bool t)) (hx : ev l x = some u) (hy : ev l y = some v) : Pure P n W w0 l m o (bif t then u else v) :=
 fun a w st => by cases t <;> simp [execOp, ho, st.has.ev hc, st.has.ev hx, st.has.ev hy, asBool]
theorem Pure.pickT {c x y : Operand} {u : Value} (ho : o.op = .pick c x y) (hc : ev l c = some (.bool true)) (hx : ev l x = some u) : Pure P n W w0 l m o u :=
 fun a w st => by simp [execOp, ho, st.has.ev hc, st.has.ev hx, asBool]
theorem Pure.pickF {c x y : Operand} {u : Value} (ho : o.op = .pick c x y) (hc : ev l c = some (.bool false)) (hy : ev l y = some u) : Pure P n W w0 l m o u :=
 fun a w st => by simp [execOp, ho, st.has.ev hc, st.has.ev hy, asBool]

theorem Pure.fieldAddr {s : TypeId} {x : Operand} {f b off k off' : Nat} (ho : o.op = .fieldAddr s x f) (hx : ev l x = some (.pointer (some ⟨b, off, none⟩))) (hf : fOff P s f = some k) (hk : off + k = off') :
  Pure P n W w0 l m o (.pointer (some ⟨b, off', none⟩)) :=
 fun a w st => by subst hk; simp [execOp, ho, st.has.ev hx, run_fieldAt hf]

theorem Pure.nilCheck {x : Operand} {p : Addr} (ho : o.op = .nilCheck x) (hx : ev l x = some (.pointer (some p))) : Pure P n W w0 l m o (.pointer (some p)) :=
 fun a w st => by simp [execOp, ho, st.has.ev hx]

/-- a load of one cell -/
theorem Pure.loadC {t : TypeId} {x : Operand} {b off : Nat} {v : Value} (ho : o.op = .load t x) (hx : ev l x = some (.pointer (some ⟨b, off, none⟩))) (ht : aggB P t = some false)
  (hv : ∀ w, Mem W w0 m w → Keeps W w0 w → w.cell? ⟨b, off, none⟩ = some v) : Pure P n W w0 l m o v :=
 fun a w st => by simp [execOp, ho, st.has.ev hx, Instr.loadAt, Instr.sureAddr, loadVar, run_isAgg ht, load, Sem.run, hv w st.mem st.keeps]

/-- a load of a struct or an array -/
theorem Pure.loadR {t : TypeId} {x : Operand} {b off : Nat} {cs : Array Value} (ho : o.op = .load t x) (hx : ev l x = some (.pointer (some ⟨b, off, none⟩))) (ht : aggB P t = some true) (hk : csz P t = some cs.size)
  (hv : ∀ w, Mem W w0 m w → Keeps W w0 w → w.rangeAt b off cs.toList) : Pure P n W w0 l m o (.agg cs) :=
 fun a w st => by
  have hl : (loadCells ⟨b, off, none⟩ cs.size).run P w = .ok cs w := by
   have := run_loadCells_list (P := P) w ⟨b, off, none⟩ cs.toList (fun j v hj => by rw [Addr.add_mid]; exact hv w st.mem st.keeps j v hj)
   simpa using this
  simp [execOp, ho, st.has.ev hx, Instr.loadAt, Instr.sureAddr, loadVar, run_isAgg ht, run_sizeOf hk, hl]

theorem Mem.blk {i b : Nat} {ob : Obj} (hm : nth m i = some (.blk b ob)) {w : World} (h : Mem W w0 m w) : w.heap[b]? = some ob := by
 rw [nth_eq] at hm
 exact h.holds _ (List.mem_of_getElem? hm)

theorem Pure.load1 {t : TypeId} {x : Operand} {b off : Nat} {v : Value} (i : Nat) {ss : List Seg} {T : TypeId} {fz : Nat × Nat} (ho : o.op = .load t x) (hx : ev l x = some (.pointer (some ⟨b, off, none⟩)))
  (hm : nth m i = some (.blk b (.cells (flat ss) T fz))) (hv : at1 ss off = some v) (ht : aggB P t = some false) : Pure P n W w0 l m o v :=
 Pure.loadC ho hx ht fun w hM _ => by rw [Lib.cell_of_heap (hM.blk hm), ← at1_eq]; exact hv

theorem Pure.loadA {t : TypeId} {x : Operand} {b off k : Nat} (i : Nat) {ss q : List Seg} {T : TypeId} {fz : Nat × Nat} (ho : o.op = .load t x) (hx : ev l x = some (.pointer (some ⟨b, off, none⟩)))
  (hm : nth m i = some (.blk b (.cells (flat ss) T fz))) (hk : csz P t = some k) (hv : cut ss off k = some q) (ht : aggB P t = some true) : Pure P n W w0 l m o (.agg (flat q)) := by
 obtain ⟨h1, h2, h3⟩ := cut_spec ss off k q hv
 refine Pure.loadR ho hx ht (by rw [flat_size, h2]; exact hk) fun w hM _ j v hj => ?_
 rw [Lib.cell_of_heap (hM.blk hm)]
 rw [← h1] at hj
 rw [Array.toList_extract, List.extract_eq_take_drop] at hj
 rw [List.getElem?_take] at hj
 split at hj
 ·
  rw [List.getElem?_drop] at hj
  simpa using hj
 ·
  exact absurd hj (by simp)

theorem Pure.lss {x y : Operand} {k : IntKind} {p q : Int} {t t' : TypeId} (ho : o.op = .binOp .lss t x y t') (hx : ev l x = some (.int k p)) (hy : ev l y = some (.int k q)) : Pure P n W w0 l m o (.bool (decide (p < q))) :=
 fun a w st => by simp [execOp, ho, st.has.ev hx, st.has.ev hy, eqGuard, binOp, Op.intCmp]
theorem Pure.leq {x y : Operand} {k : IntKind} {p q : Int} {t t' : TypeId} (ho : o.op = .binOp .leq t x y t') (hx : ev l x = some (.int k p)) (hy : ev l y = some (.int k q)) : Pure P n W w0 l m o (.bool (decide (p ≤ q))) :=
 fun a w st => by simp [execOp, ho, st.has.ev hx, st.has.ev hy, eqGuard, binOp, Op.intCmp]
theorem Pure.gtr {x y : Operand} {k : IntKind} {p q : Int} {t t' : TypeId} (ho : o.op = .binOp .gtr t x y t') (hx : ev l x = some (.int k p)) (hy : ev l y = some (.int k q)) : Pure P n W w0 l m o (.bool (decide (q < p))) :=
 fun a w st => by simp [execOp, ho, st.has.ev hx, st.has.ev hy, eqGuard, binOp, Op.intCmp]
theorem Pure.geq {x y : Operand} {k : IntKind} {p q : Int} {t t' : TypeId} (ho : o.op = .binOp .geq t x y t') (hx : ev l x = some (.int k p)) (hy : ev l y = some (.int k q)) : Pure P n W w0 l m o (.bool (decide (q ≤ p))) :=
 fun a w st => by simp [execOp, ho, st.has.ev hx, st.has.ev hy, eqGuard, binOp, Op.intCmp]
theorem Pure.eqi {x y : Operand} {k : IntKind} {p q : Int} {t t' : TypeId} (ho : o.op = .binOp .eql t x y t') (hx : ev l x = some (.int k p)) (hy : ev l y = some (.int k q)) : Pure P n W w0 l m o (.bool (decide (p = q))) :=
 fun a w st => by simp [execOp, ho, st.has.ev hx, st.has.ev hy, eqGuard, binOp, Op.intCmp]; rfl
theorem Pure.nei {x y : Operand} {k : IntKind} {p q : Int} {t t' : TypeId} (ho : o.op = .binOp .neq t x y t') (hx : ev l x = some (.int k p)) (hy : ev l y = some (.int k q)) : Pure P n W w0 l m o (.bool (!decide (p = q))) :=
 fun a w st => by simp [execOp, ho, st.has.ev hx, st.has.ev hy, eqGuard, binOp, Op.intCmp]; rfl

theorem Pure.add {x y : Operand} {k : IntKind} {p q : Int} {t t' : TypeId} (ho : o.op = .binOp .add t x y t') (hx : ev l x = some (.int k p)) (hy : ev l y = some (.int k q)) : Pure P n W w0 l m o (.int k (k.wrap (p + q))) :=
 fun a w st => by simp [execOp, ho, st.has.ev hx, st.has.ev hy, eqGuard, binOp, Op.intArith]
theorem Pure.sub {x y : Operand} {k : IntKind} {p q : Int} {t t' : TypeId} (ho : o.op = .binOp .sub t x y t') (hx : ev l x = some (.int k p)) (hy : ev l y = some (.int k q)) : Pure P n W w0 l m o (.int k (k.wrap (p - q))) :=
 fun a w st => by simp [execOp, ho, st.has.ev hx, st.has.ev hy, eqGuard, binOp, Op.intArith]
theorem Pure.mul {x y : Operand} {k : IntKind} {p q : Int} {t t' : TypeId} (ho : o.op = .binOp .mul t x y t') (hx : ev l x = some (.int k p)) (hy : ev l y = some (.int k q)) : Pure P n W w0 l m o (.int k (k.wrap (p * q))) :=
 fun a w st => by simp [execOp, ho, st.has.ev hx, st.has.ev hy, eqGuard, binOp, Op.intArith]

theorem wrap_i64_id {p : Int} (h1 : -9223372036854775808 ≤ p) (h2 : p ≤ 9223372036854775807) : IntKind.i64.wrap p = p := by rw [IntKind.wrap_i64]; omega

theorem Pure.addI {x y : Operand} {p q r : Int} {t t' : TypeId} (ho : o.op = .binOp .add t x y t') (hx : ev l x = some (.int .i64 p)) (hy : ev l y = some (.int .i64 q)) (hr : r = p + q) (h1 : -9223372036854775808 ≤ p + q) (h2 : p + q ≤ 9223372036854775807) :
  Pure P n W w0 l m o (.int .i64 r) := by
 subst hr
 have := Pure.add (P := P) (n := n) (W := W) (w0 := w0) (m := m) ho hx hy
 rwa [wrap_i64_id h1 h2] at this
theorem Pure.subI {x y : Operand} {p q r : Int} {t t' : TypeId} (ho : o.op = .binOp .sub t x y t') (hx : ev l x = some (.int .i64 p)) (hy : ev l y = some (.int .i64 q)) (hr : r = p - q) (h1 : -9223372036854775808 ≤ p - q) (h2 : p - q ≤ 9223372036854775807) :
  Pure P n W w0 l m o (.int .i64 r) := by
 subst hr
 have := Pure.sub (P := P) (n := n) (W := W) (w0 := w0) (m := m) ho hx hy
 rwa [wrap_i64_id h1 h2] at this
theorem Pure.mulI {x y : Operand} {p q r : Int} {t t' : TypeId} (ho : o.op = .binOp .mul t x y t') (hx : ev l x = some (.int .i64 p)) (hy : ev l y = some (.int .i64 q)) (hr : r = p * q) (h1 : -9223372036854775808 ≤ p * q) (h2 : p * q ≤ 9223372036854775807) :
  Pure P n W w0 l m o (.int .i64 r) := by
 subst hr
 have := Pure.mul (P := P) (n := n) (W := W) (w0 := w0) (m := m) ho hx hy
 rwa [wrap_i64_id h1 h2] at this

theorem Pure.not {x : Operand} {b : Bool} {t : TypeId} (ho : o.op = .unOp .not t x) (hx : ev l x = some (.bool b)) : Pure P n W w0 l m o (.bool (!b)) :=
 fun a w st => by simp [execOp, ho, st.has.ev hx, Op.unary]

theorem Pure.extract {x : Operand} {i : Nat} {vs : List Value} {v : Value} (ho : o.op = .extract x i) (hx : ev l x = some (.tuple vs.toArray)) (hv : nth vs i = some v) : Pure P n W w0 l m o v :=
 fun a w st => by rw [nth_eq] at hv; simp [execOp, ho, st.has.ev hx, Instr.extract, hv]

theorem Pure.makeFunc {fn : Fn} {xs : List Operand} {vs : List Value} (ho : o.op = .makeFunc fn xs.toArray #[]) (hx : evs l xs = some vs) : Pure P n W w0 l m o (.func fn vs.toArray #[]) :=
 fun a w st => by simp [execOp, ho, Instr.makeFunc, st.has.evs hx]

theorem Pure.convI {x : Operand} {s t : TypeId} {k k' : IntKind} {p : Int} (ho : o.op = .convert s t x) (hx : ev l x = some (.int k p)) (hs : (P.underlying s).isSome = true) (hk : P.underlying t = some (.int k')) : Pure P n W w0 l m o (.int k' (k'.wrap p)) :=
 fun a w st => by
  obtain ⟨d, hd⟩ := Option.isSome_iff_exists.1 hs
  simp [execOp, ho, st.has.ev hx, convert, run_underlying hd, run_underlying hk, Conv.intToInt]

theorem run_equalIn_ptr_nil {t e : TypeId} (ht : P.underlying t = some (.pointer e)) (d : Nat) (p : Option Addr) (w : World) : (Op.equalIn (d + 1) t (.pointer p) (.pointer none)).run P w = .ok p.isNone w := by
 cases p <;> simp [Op.equalIn, run_underlying ht]

theorem run_eql_ptr_nil {t e : TypeId} (ht : P.underlying t = some (.pointer e)) (p : Option Addr) (w : World) : (binOp .eql t (.pointer p) (.pointer none)).run P w = .ok (.bool p.isNone) w := by
 simp only [binOp]
 simp [Op.equal, Op.maxDepth, run_equalIn_ptr_nil ht 9999 p w]

theorem run_neq_ptr_nil {t e : TypeId} (ht : P.underlying t = some (.pointer e)) (p : Option Addr) (w : World) : (binOp .neq t (.pointer p) (.pointer none)).run P w = .ok (.bool (!p.isNone)) w := by
 simp only [binOp]
 simp [Op.equal, Op.maxDepth, run_equalIn_ptr_nil ht 9999 p w]

/-- a pointer against nil -/
theorem Pure.eqNil {x y : Operand} {t t' e : TypeId} {p : Option Addr} (ho : o.op = .binOp .eql t x y t') (hx : ev l x = some (.pointer p)) (hy : ev l y = some (.pointer none)) (ht : P.underlying t = some (.pointer e)) : Pure P n W w0 l m o (.bool p.isNone) :=
 fun a w st => by simp [execOp, ho, st.has.ev hx, st.has.ev hy, eqGuard, run_eql_ptr_nil ht]
theorem Pure.neNil {x y : Operand} {t t' e : TypeId} {p : Option Addr} (ho : o.op = .binOp .neq t x y t') (hx : ev l x = some (.pointer p)) (hy : ev l y = some (.pointer none)) (ht : P.underlying t = some (.pointer e)) : Pure P n W w0 l m o (.bool (!p.isNone)) :=
 fun a w st => by simp [execOp, ho, st.has.ev hx, st.has.ev hy, eqGuard, run_neq_ptr_nil ht]

theorem beq_decide_list (s u : List UInt8) : (s == u) = decide (s = u) := by rw [Bool.eq_iff_iff]; simp

/-! ### Builtins and strings -/
theorem Pure.lenS {x : Operand} {s : List UInt8} {ts : Array TypeId} {t : TypeId} (ho : o.op = .call { callee := .builtin .len, args := #[x], argTypes := ts }) (hx : ev l x = some (str s)) (ht : ts[0]? = some t) (hu : P.underlying t = some .string) : Pure P n W w0 l m o (.int .i64 s.length) :=
 fun a w st => by simp [execOp, ho, resolve, invoke, builtin, st.has.ev hx, str, Builtin.len_, ht, run_underlying hu, str_size, goInt]
theorem Pure.lenSl {x : Operand} {p : Option Addr} {k c : Nat} {ts : Array TypeId} {t e : TypeId} (ho : o.op = .call { callee := .builtin .len, args := #[x], argTypes := ts }) (hx : ev l x = some (.slice p k c)) (ht : ts[0]? = some t) (hu : P.underlying t = some (.slice e)) : Pure P n W w0 l m o (.int .i64 k) :=
 fun a w st => by simp [execOp, ho, resolve, invoke, builtin, st.has.ev hx, Builtin.len_, ht, run_underlying hu, goInt]
theorem Pure.min2 {x y : Operand} {k : IntKind} {p q : Int} {ts : Array TypeId} (ho : o.op = .call { callee := .builtin .min, args := #[x, y], argTypes := ts }) (hx : ev l x = some (.int k p)) (hy : ev l y = some (.int k q)) : Pure P n W w0 l m o (.int k (min p q)) :=
 fun a w st => by
  have e : (if q < p then q else p) = min p q := by omega
  simp [execOp, ho, resolve, invoke, builtin, st.has.ev hx, st.has.ev hy, Builtin.min_, Builtin.min2, e]
theorem Pure.max2 {x y : Operand} {k : IntKind} {p q : Int} {ts : Array TypeId} (ho : o.op = .call { callee := .builtin .max, args := #[x, y], argTypes := ts }) (hx : ev l x = some (.int k p)) (hy : ev l y = some (.int k q)) : Pure P n W w0 l m o (.int k (max p q)) :=
 fun a w st => by
  have e : (if q > p then q else p) = max p q := by omega
  have e' : (if p < q then q else p) = max p q := by omega
  simp [execOp, ho, resolve, invoke, builtin, st.has.ev hx, st.has.ev hy, Builtin.max_, Builtin.max2, e']

theorem Pure.eqS {x y : Operand} {s u : List UInt8} {t t' : TypeId} (ho : o.op = .binOp .eql t x y t') (hx : ev l x = some (str s)) (hy : ev l y = some (str u)) : Pure P n W w0 l m o (.bool (decide (s = u))) :=
 fun a w st => by simp [execOp, ho, st.has.ev hx, st.has.ev hy, str, eqGuard, binOp, Op.stringOp, str_toList, beq_decide_list]
theorem Pure.neS {x y : Operand} {s u : List UInt8} {t t' : TypeId} (ho : o.op = .binOp .neq t x y t') (hx : ev l x = some (str s)) (hy : ev l y = some (str u)) : Pure P n W w0 l m o (.bool (!decide (s = u))) :=
 fun a w st => by simp [execOp, ho, st.has.ev hx, st.has.ev hy, str, eqGuard, binOp, Op.stringOp, str_toList, beq_decide_list]
theorem Pure.addS {x y : Operand} {s u : List UInt8} {t t' : TypeId} (ho : o.op = .binOp .add t x y t') (hx : ev l x = some (str s)) (hy : ev l y = some (str u)) (hl : s.length + u.length ≤ 9223372036854775807) : Pure P n W w0 l m o (str (s ++ u)) :=
 fun a w st => by
  have hm : IntKind.i64.max = 9223372036854775807 := rfl
  have hn : ¬ ((9223372036854775807 : Int) < (s.length : Int) + (u.length : Int)) := by omega
  simp [execOp, ho, st.has.ev hx, st.has.ev hy, str, eqGuard, binOp, Op.stringOp, str_append, str_size, hm, hn]

theorem run_sliceBound (P : Program) (w : World) {i : Int} {y : Nat} (c : BoundsCode) (h0 : 0 ≤ i) (h1 : i ≤ y) : (Instr.sliceBound (.int .i64 i) y c).run P w = .ok i.toNat w := by
 simp [Instr.sliceBound, asIntOf, h0, h1]

theorem Pure.sliceS {x : Operand} {lo hi : Option Operand} {s : List UInt8} {i j : Int} {t : TypeId} (ho : o.op = .slice t x lo hi none) (hx : ev l x = some (str s)) (hu : P.underlying t = some .string)
    (hlo : match lo with | some p => ev l p = some (.int .i64 i) | none => i = 0) (hhi : match hi with | some p => ev l p = some (.int .i64 j) | none => j = s.length)
    (h0 : 0 ≤ i) (h1 : i ≤ j) (h2 : j ≤ s.length) : Pure P n W w0 l m o (str ((s.take j.toNat).drop i.toNat)) :=
  fun a w st => by
    have hj : 0 ≤ j := by omega
    have hij : i ≤ (j.toNat : Int) := by omega
    cases lo with
    | none =>
      subst hlo
      cases hi with
      | none => subst hhi; simp [execOp, ho, st.has.ev hx, str, Instr.sliceAt, Instr.slice, run_underlying hu, Instr.sliceBounds, str_size, str_extract]
      | some q => simp only at hhi; simp [execOp, ho, st.has.ev hx, st.has.ev hhi, str, Instr.sliceAt, Instr.slice, run_underlying hu, Instr.sliceBounds, str_size, run_sliceBound P w _ hj h2, str_extract]
    | some p =>
      simp only at hlo
      cases hi with
      | none => subst hhi; simp [execOp, ho, st.has.ev hx, st.has.ev hlo, str, Instr.sliceAt, Instr.slice, run_underlying hu, Instr.sliceBounds, str_size, run_sliceBound P w _ h0 h1, str_extract]
      | some q => simp only at hhi; simp [execOp, ho, st.has.ev hx, st.has.ev hlo, st.has.ev hhi, str, Instr.sliceAt, Instr.slice, run_underlying hu, Instr.sliceBounds, str_size, run_sliceBound P w _ hj h2, run_sliceBound P w _ h0 hij, str_extract]

theorem Pure.indexS {x y : Operand} {s : List UInt8} {i : Int} {t : TypeId} {c : UInt8} (ho : o.op = .index t x y) (hx : ev l x = some (str s)) (hy : ev l y = some (.int .i64 i)) (hu : P.underlying t = some .string) (h0 : 0 ≤ i) (hc : s[i.toNat]? = some c) :
  Pure P n W w0 l m o (.int .u8 c.toNat) :=
 fun a w st => by
  have hget : (⟨s.toArray⟩ : ByteArray)[i.toNat]? = some c := by
   have hlt : i.toNat < s.length := (List.getElem?_eq_some_iff.1 hc).1
   have hlt' : i.toNat < (⟨s.toArray⟩ : ByteArray).size := by rw [str_size]; exact hlt
   rw [getElem?_pos (⟨s.toArray⟩ : ByteArray) i.toNat hlt']
   have : (⟨s.toArray⟩ : ByteArray)[i.toNat] = s[i.toNat] := rfl
   rw [this]
   rw [List.getElem?_eq_getElem hlt] at hc
   exact hc
  simp [execOp, ho, st.has.ev hx, st.has.ev hy, str, Instr.index, asIntOf, run_underlying hu, h0, hget]

end
end Go.SL
namespace Go.SL
open Go.RowKit

section
variable {P : Program} {n : Nat} {W : Nat → Prop} {w0 : World} {l : List (Nat × Value)} {m : List Res} {ops : Array Oper} {Q : Exit → Act → World → Prop} {rest : List Oper} {o : Oper}

def setN : List Res → Nat → Res → List Res
 | [], _, _ => []
 | _ :: m, 0, r => r :: m
 | x :: m, i + 1, r => x :: setN m i r

theorem setN_eq : ∀ (m : List Res) (i : Nat) (r : Res), setN m i r = m.set i r
 | [], _, _ => rfl
 | _ :: m, 0, r => rfl
 | x :: m, i + 1, r => by simp [setN, setN_eq m i r]

/-- one block of ours is written -/
theorem Mem.set {i b : Nat} {ob ob' : Obj} {w w' : World} (hm : nth m i = some (.blk b ob)) (h : Mem W w0 m w) (hb : w'.heap[b]? = some ob') (hs : w.heap.size ≤ w'.heap.size) (ho : ∀ k, k ≠ b → k < w.heap.size → w'.heap[k]? = w.heap[k]?) : Mem W w0 (setN m i (.blk b ob')) w' := by
  rw [nth_eq] at hm
  have hi : i < m.length := (List.getElem?_eq_some_iff.1 hm).1
  have hmi : m[i] = .blk b ob := (List.getElem?_eq_some_iff.1 hm).2
  rw [setN_eq]
  have hpw := List.pairwise_iff_getElem.1 h.apart
  -- another one's block is not b
  have hne : ∀ (j : Nat) (hj : j < m.length), j ≠ i → ∀ k, (m[j]).block = some k → k ≠ b := by
    intro j hj hji k hk hkb
    subst hkb
    rcases Nat.lt_or_ge j i with hlt | hge
    · exact hpw j i hj hi hlt k hk (by rw [hmi]; rfl)
    · exact hpw i j hi hj (by omega) k (by rw [hmi]; rfl) hk
  refine ⟨?_, ?_, ?_⟩
  · intro r hr
    obtain ⟨j, hj, rfl⟩ := List.mem_iff_getElem.1 hr
    simp only [List.length_set] at hj
    by_cases hji : i = j
    · subst hji; rw [List.getElem_set_self]; exact hb
    · rw [List.getElem_set_ne hji]
      have hh := h.holds m[j] (List.getElem_mem hj)
      cases hx : m[j] with
      | blk c oc =>
        rw [hx] at hh
        have hlt : c < w.heap.size := Res.block_lt hh rfl
        have : c ≠ b := hne j hj (fun e => hji e.symm) c (by rw [hx]; rfl)
        show w'.heap[c]? = some oc
        rw [ho c this hlt]; exact hh
      | row v e sz k xs =>
        rw [hx] at hh
        refine ⟨hh.1, ?_⟩
        rcases hh.2 with h1 | ⟨g, cap, cur, fz, rfl, hbg, hg, rest⟩
        · exact .inl h1
        · refine .inr ⟨g, cap, cur, fz, rfl, hbg, ?_, rest⟩
          have hlt : g < w.heap.size := (Array.getElem?_eq_some_iff.1 hg).1
          rw [ho g (hne j hj (fun e => hji e.symm) g (by rw [hx]; rfl)) hlt]; exact hg
  · intro r hr k hk
    obtain ⟨j, hj, rfl⟩ := List.mem_iff_getElem.1 hr
    simp only [List.length_set] at hj
    by_cases hji : i = j
    · subst hji
      simp only [List.getElem_set_self, Res.block, Option.some.injEq] at hk
      subst hk
      exact h.may m[i] (List.getElem_mem hj) b (by rw [hmi]; rfl)
    · rw [List.getElem_set_ne hji] at hk
      exact h.may m[j] (List.getElem_mem hj) k hk
  · rw [List.pairwise_iff_getElem]
    intro j1 j2 h1 h2 hlt k hk1 hk2
    simp only [List.length_set] at h1 h2
    by_cases e1 : i = j1
    · subst e1
      simp only [List.getElem_set_self, Res.block, Option.some.injEq] at hk1
      subst hk1
      rw [List.getElem_set_ne (by omega)] at hk2
      exact hne j2 h2 (by omega) b hk2 rfl
    · rw [List.getElem_set_ne e1] at hk1
      by_cases e2 : i = j2
      · subst e2
        simp only [List.getElem_set_self, Res.block, Option.some.injEq] at hk2
        subst hk2
        exact hne j1 h1 (by omega) b hk1 rfl
      · rw [List.getElem_set_ne e2] at hk2
        exact hpw j1 j2 h1 h2 hlt k hk1 hk2

theorem Keeps.write {b : Nat} {w w' : World} (h : Keeps W w0 w) (hb : w0.heap.size ≤ b ∨ W b) (h1 : w'.os = w.os) (h2 : w'.tape = w.tape) (h3 : w'.output = w.output) (hs : w.heap.size ≤ w'.heap.size) (ho : ∀ k, k ≠ b → k < w.heap.size → w'.heap[k]? = w.heap[k]?) : Keeps W w0 w' := by
 refine ⟨h1.trans h.os, h2.trans h.tape, h3.trans h.output, Nat.le_trans h.size hs, fun k hk hn => ?_⟩
 refine (ho k (fun e => ?_) (Nat.lt_of_lt_of_le hk h.size)).trans (h.block k hk hn)
 subst e
 rcases hb with hb | hb
 ·
  omega
 ·
  exact hn hb

/-- An operation with its effect: for some x with φ x, the slots are l' x and the memory m' x. -/
def Eff (P : Program) (n : Nat) (W : Nat → Prop) (w0 : World) (l : List (Nat × Value)) (m : List Res) (o : Oper) (Q : Exit → Act → World → Prop) (X : Type) (φ : X → Prop) (l' : X → List (Nat × Value)) (m' : X → List Res) : Prop :=
 ∀ a w (K : Act → World → Prop), St n W w0 l m a w → (∀ x, φ x → ∀ a' w', St n W w0 (l' x) (m' x) a' w' → K a' w') → o.wp P a w K Q

theorem Ok.eff {X : Type} {φ : X → Prop} {l' : X → List (Nat × Value)} {m' : X → List Res} (hg : o.guard = none) (he : Eff P n W w0 l m o Q X φ l' m') (h : ∀ x, φ x → Ok n W w0 (l' x) (m' x) (wpList P ops Q rest)) : Ok n W w0 l m (wpList P ops Q (o :: rest)) :=
 fun a w st => wpList_plain hg fun K hK => he a w K st fun x hx a' w' st' => hK a' w' (h x hx a' w' st')

theorem Ok.effG {X : Type} {φ : X → Prop} {l' : X → List (Nat × Value)} {m' : X → List Res} {g dg : Nat} {want c : Bool} {og : Oper} (hg : o.guard = some (g, want)) (ho : ops[g]? = some og) (hgd : og.dst = some dg) (hc : look l dg = some (.bool c)) (hcw : (c == want) = true)
  (he : Eff P n W w0 l m o Q X φ l' m') (h : ∀ x, φ x → Ok n W w0 (l' x) (m' x) (wpList P ops Q rest)) : Ok n W w0 l m (wpList P ops Q (o :: rest)) := by
 intro a w st
 refine wpList_step fun K hK => ?_
 rw [wanted_of hg ho hgd hc st, if_pos hcw]
 exact he a w K st fun x hx a' w' st' => hK a' w' (h x hx a' w' st')

theorem Eff.alloc {t : TypeId} {d : Nat} (zs : List Seg) (ho : o.op = .alloc t) (hd : o.dst = some d) (hdn : Nat.ble (d + 1) n = true) (hz : zcells P t = some (flat zs)) :
  Eff P n W w0 l m o Q Nat (fun _ => True) (fun b => (d, .pointer (some ⟨b, 0, none⟩)) :: l) (fun b => .blk b (.cells (flat zs) t (0, 0)) :: m) := by
 intro a w K st h
 obtain ⟨v, hv, hc⟩ := run_zeroValue hz w
 have hr : (execOp a.eval o).run P w = .ok (.value (.pointer (some ⟨w.heap.size, 0, none⟩))) (w.alloc (.cells (flat zs) t (0, 0))) := by
  simp [execOp, ho, Instr.alloc, hv, newVar, newRow, hc]
 unfold Oper.wp
 rw [hr, Oper.upon_value, hd]
 refine h w.heap.size trivial _ _ ⟨st.has.put _ hdn, ?_, st.keeps.trans (Keeps.alloc W w _)⟩
 exact st.mem.cons_new (Keeps.alloc none1 w _) st.keeps.size (heap_alloc_new w _) (fun k hk => by simp [Res.block] at hk; omega)

theorem Eff.box {t : TypeId} {x : Operand} {d : Nat} {v : Value} (q : List Seg) (ho : o.op = .box t x) (hx : ev l x = some v) (hq : v.cells = flat q) (hd : o.dst = some d) (hdn : Nat.ble (d + 1) n = true) :
  Eff P n W w0 l m o Q Nat (fun _ => True) (fun b => (d, .pointer (some ⟨b, 0, none⟩)) :: l) (fun b => .blk b (.cells (flat q) t (0, 0)) :: m) := by
 intro a w K st h
 have hr : (execOp a.eval o).run P w = .ok (.value (.pointer (some ⟨w.heap.size, 0, none⟩))) (w.alloc (.cells (flat q) t (0, 0))) := by
  simp [execOp, ho, Instr.box, newVar, newRow, st.has.ev hx, hq]
 unfold Oper.wp
 rw [hr, Oper.upon_value, hd]
 refine h w.heap.size trivial _ _ ⟨st.has.put _ hdn, ?_, st.keeps.trans (Keeps.alloc W w _)⟩
 exact st.mem.cons_new (Keeps.alloc none1 w _) st.keeps.size (heap_alloc_new w _) (fun k hk => by simp [Res.block] at hk; omega)

theorem run_storeSegs {t : TypeId} {b off k : Nat} {v : Value} {ss q ss' : List Seg} {T : TypeId} {w : World} (hb : w.heap[b]? = some (.cells (flat ss) T (0, 0))) (hv : v.cells = flat q) (hk : csz P t = some k) (hq : width q = k) (hs : spl ss off q k = some ss') :
  (Instr.storeAt t (.pointer (some ⟨b, off, none⟩)) v).run P w = .ok () (w.setRow b (flat ss')) := by
 obtain ⟨h1, h2⟩ := spl_spec ss off k q ss' hs hq
 have hlen : v.cells.toList.length = k := by rw [hv, Array.length_toList, flat_size, hq]
 have hst := run_storeCells_at P b off T v.cells.toList 0 (flat ss) w hb (by rw [hlen, flat_size]; omega) (fun x hx => flat_one q x (by rw [← hv]; exact hx))
 have he : ((flat ss).toList.take (off + 0) ++ v.cells.toList ++ (flat ss).toList.drop (off + 0 + v.cells.toList.length)).toArray = flat ss' := by
  rw [hlen, h2, hv]
  apply Array.ext'
  simp only [Nat.add_zero, Array.toList_append, Array.toList_extract, List.extract_eq_take_drop, List.drop_zero, Nat.sub_zero]
  congr 1
  rw [List.take_of_length_le]
  simp [flat_size]
 rw [he] at hst
 simp [Instr.storeAt, Instr.sureAddr, storeVar, run_sizeOf hk, show v.cells.size = k by simpa using hlen, hst]

theorem Eff.storeG {t : TypeId} {x y : Operand} {b off k : Nat} {v : Value} (i : Nat) {ss ss' : List Seg} (q : List Seg) {T : TypeId} (ho : o.op = .store t x y) (hd : o.dst = none) (hx : ev l x = some (.pointer (some ⟨b, off, none⟩))) (hy : ev l y = some v) (hv : v.cells = flat q)
  (hm : nth m i = some (.blk b (.cells (flat ss) T (0, 0)))) (hk : csz P t = some k) (hq : width q = k) (hs : spl ss off q k = some ss') :
  Eff P n W w0 l m o Q Unit (fun _ => True) (fun _ => l) (fun _ => setN m i (.blk b (.cells (flat ss') T (0, 0)))) := by
 intro a w K st h
 have hb := st.mem.blk hm
 have hlt : b < w.heap.size := (Array.getElem?_eq_some_iff.1 hb).1
 have hr : (execOp a.eval o).run P w = .ok .skip (w.setRow b (flat ss')) := by
  simp [execOp, ho, st.has.ev hx, st.has.ev hy, run_storeSegs hb hv hk hq hs]
 unfold Oper.wp
 rw [hr, Oper.upon_skip, hd]
 refine h () trivial _ _ ⟨st.has, ?_, ?_⟩
 ·
  exact st.mem.set hm (setRow_heap w b _ _ T _ hb) (by simp [World.setRow]) (fun k hk _ => setRow_other w b k _ hk)
 ·
  rw [nth_eq] at hm
  exact st.keeps.write (st.mem.may _ (List.mem_of_getElem? hm) b rfl) rfl rfl rfl (by simp [World.setRow]) (fun k hk _ => setRow_other w b k _ hk)

/-! ### Calls -/
def blocksOf (ms : List Res) : Nat → Prop := fun k => ∃ r ∈ ms, r.block = some k

/-- what a contract says of the world behind the call -/
structure Post (w : World) (S : Nat → Prop) (ms : List Res) (w' : World) : Prop where
 keeps : Keeps S w w'
 mem : Mem S w ms w'

theorem run_call {f : FuncId} (h : entersB P f = true) (args : Array Value) (w : World) : (callFunc f args).run P w = .ok (.enter f args) w := by
 unfold entersB at h
 cases hf : P.funcs[f]? with
 | none => simp [hf] at h
 | some fn =>
  simp only [hf, Bool.and_eq_true, Bool.not_eq_true', beq_eq_false_iff_ne] at h
  obtain ⟨h1, h2⟩ := h
  obtain ⟨c, hc⟩ := Option.isSome_iff_exists.1 h2
  simp [callFunc, hf, h1, hc]

theorem run_callOp {f : FuncId} {xs : List Operand} {vs : List Value} {ts : Array TypeId} {x : Operand} (ho : o.op = .call { callee := .value x, args := xs.toArray, argTypes := ts }) (hx : ev l x = some (.func (.func f) #[] #[])) (hf : entersB P f = true) (hv : evs l xs = some vs) {a : Act} {w : World} (st : St n W w0 l m a w) :
  (execOp a.eval o).run P w = .ok (.enter f vs.toArray) w := by
 have h1 : Array.map a.eval xs.toArray = vs.toArray := by rw [List.map_toArray, st.has.evs hv]
 simp [execOp, ho, resolve, st.has.ev hx, Deferred.ofValue, invoke, h1, run_call hf]

/-- a method value or closure over receivers: the captured ones come behind the arguments -/
theorem run_callFn {f : FuncId} {xs : List Operand} {vs first cap : List Value} {ts : Array TypeId} {x : Operand} (ho : o.op = .call { callee := .value x, args := xs.toArray, argTypes := ts }) (hx : ev l x = some (.func (.func f) first.toArray cap.toArray)) (hf : entersB P f = true) (hv : evs l xs = some vs) {a : Act} {w : World} (st : St n W w0 l m a w) :
  (execOp a.eval o).run P w = .ok (.enter f (first ++ vs ++ cap).toArray) w := by
 have h1 : Array.map a.eval xs.toArray = vs.toArray := by rw [List.map_toArray, st.has.evs hv]
 simp [execOp, ho, resolve, st.has.ev hx, Deferred.ofValue, invoke, h1, run_call hf]

/-- the slots behind a call -/
def putD (d : Option Tmp) (v : Value) (l : List (Nat × Value)) : List (Nat × Value) :=
 match d with
 | some d => (d, v) :: l
 | none => l

def dstOk (n : Nat) : Option Tmp → Bool
 | some d => Nat.ble (d + 1) n
 | none => true

theorem Has.putD {a : Act} (h : Has n l a) (d : Option Tmp) (v : Value) (hd : dstOk n d = true) : Has n (SL.putD d v l) (a.put d v) := by
 cases d with
 | none => exact h
 | some d => exact h.put v hd

def disj : List Nat → List Nat → Bool
 | [], _ => true
 | i :: is, js => !(js.any (Nat.beq i)) && disj is js

theorem nth_sel_ne {is js : List Nat} (hd : disj is js = true) : ∀ i ∈ is, i ∉ js := by
 induction is with
 | nil => simp
 | cons x is ih =>
  simp only [disj, Bool.and_eq_true, Bool.not_eq_true', List.any_eq_false] at hd
  intro i hi
  rcases List.mem_cons.1 hi with rfl | hi
  ·
   intro hj
   have := hd.1 i hj
   simp at this
  ·
   exact ih hd.2 i hi

/-- behind a call that may have changed the resources 'is' and leaves ms: the others, 'js', are as they were -/
theorem Mem.after {is js : List Nat} {ms : List Res} {w w' : World} (h : Mem W w0 m w) (h0 : w0.heap.size ≤ w.heap.size) (hd : disj is js = true) (hj : nod js = true) (hp : Post w (blocksOf (selM m is)) ms w') : Mem W w0 (ms ++ selM m js) w' := by
 have hjs := h.sel js hj
 have hno : ∀ r ∈ selM m js, ∀ k, r.block = some k → ¬ blocksOf (selM m is) k := by
  intro r hr k hk ⟨s, hs, hsk⟩
  obtain ⟨j, hjm, hjn⟩ := mem_selM_idx js r hr
  obtain ⟨i, him, hin⟩ := mem_selM_idx is s hs
  exact h.apart_idx hjn hin (fun e => nth_sel_ne hd i him (e ▸ hjm)) hk hsk
 refine ⟨?_, ?_, ?_⟩
 ·
  intro r hr
  rcases List.mem_append.1 hr with hr | hr
  ·
   exact hp.mem.holds r hr
  ·
   exact Res.keeps (hjs.holds r hr) hp.keeps (hno r hr)
 ·
  intro r hr k hk
  rcases List.mem_append.1 hr with hr | hr
  ·
   rcases hp.mem.may r hr k hk with hh | ⟨s, hs, hsk⟩
   ·
    exact .inl (Nat.le_trans h0 hh)
   ·
    exact h.may s (mem_selM is s hs) k hsk
  ·
   exact hjs.may r hr k hk
 ·
  refine List.pairwise_append.2 ⟨hp.mem.apart, hjs.apart, fun r hr s hs k hk hk2 => ?_⟩
  rcases hp.mem.may r hr k hk with hh | hh
  ·
   have := Res.block_lt (hjs.holds s hs) hk2
   omega
  ·
   exact hno s hs k hk2 hh

theorem Keeps.after {is : List Nat} {ms : List Res} {w w' : World} (hk : Keeps W w0 w) (h : Mem W w0 m w) (hp : Post w (blocksOf (selM m is)) ms w') : Keeps W w0 w' := by
 refine ⟨hp.keeps.os.trans hk.os, hp.keeps.tape.trans hk.tape, hp.keeps.output.trans hk.output, Nat.le_trans hk.size hp.keeps.size, fun k hlt hn => ?_⟩
 refine (hp.keeps.block k (Nat.lt_of_lt_of_le hlt hk.size) fun ⟨s, hs, hsk⟩ => ?_).trans (hk.block k hlt hn)
 rcases h.may s (mem_selM is s hs) k hsk with hh | hh
 ·
  omega
 ·
  exact hn hh

/-- A CALL BY ITS CONTRACT: 'is' are the resources that it is handed, 'js' those that stay. -/
theorem Eff.callE {f : FuncId} {vs : List Value} {X : Type} {φ : X → Prop} {val : X → Value} {mem : X → List Res} (is js : List Nat)
  (hr : ∀ a w, St n W w0 l m a w → (execOp a.eval o).run P w = .ok (.enter f vs.toArray) w) (hd : dstOk n o.dst = true) (hdj : disj is js = true) (hjs : nod js = true)
  (hc : ∀ w, Mem W w0 m w → Keeps W w0 w → Calls P f vs.toArray w (fun e w' => ∃ x, φ x ∧ e = .returned (val x) ∧ Post w (blocksOf (selM m is)) (mem x) w')) :
  Eff P n W w0 l m o Q X φ (fun x => putD o.dst (val x) l) (fun x => mem x ++ selM m js) := by
 intro a w K st h
 unfold Oper.wp
 rw [hr a w st, Oper.upon_enter]
 refine (hc w st.mem st.keeps).mono fun e w' ⟨x, hx, he, hp⟩ => ?_
 subst he
 exact h x hx _ _ ⟨st.has.putD _ _ hd, st.mem.after st.keeps.size hdj hjs hp, st.keeps.after st.mem hp⟩

theorem Eff.call {f : FuncId} {xs : List Operand} {vs : List Value} {ts : Array TypeId} {x : Operand} {X : Type} {φ : X → Prop} {val : X → Value} {mem : X → List Res} (is js : List Nat)
  (ho : o.op = .call { callee := .value x, args := xs.toArray, argTypes := ts }) (hx : ev l x = some (.func (.func f) #[] #[])) (hf : entersB P f = true) (hv : evs l xs = some vs) (hd : dstOk n o.dst = true) (hdj : disj is js = true) (hjs : nod js = true)
  (hc : ∀ w, Mem W w0 m w → Keeps W w0 w → Calls P f vs.toArray w (fun e w' => ∃ x, φ x ∧ e = .returned (val x) ∧ Post w (blocksOf (selM m is)) (mem x) w')) :
  Eff P n W w0 l m o Q X φ (fun x => putD o.dst (val x) l) (fun x => mem x ++ selM m js) :=
 Eff.callE is js (fun _ _ st => run_callOp ho hx hf hv st) hd hdj hjs hc

/-- a contract that only says what comes back, in a world that keeps all: one value -/
theorem Eff.callV {f : FuncId} {xs : List Operand} {vs : List Value} {ts : Array TypeId} {x : Operand} {v : Value}
  (ho : o.op = .call { callee := .value x, args := xs.toArray, argTypes := ts }) (hx : ev l x = some (.func (.func f) #[] #[])) (hf : entersB P f = true) (hv : evs l xs = some vs) (hd : dstOk n o.dst = true)
  (hc : ∀ w, Mem W w0 m w → Keeps W w0 w → Calls P f vs.toArray w (fun e w' => e = .returned v ∧ Keeps none1 w w')) :
  Eff P n W w0 l m o Q Unit (fun _ => True) (fun _ => putD o.dst v l) (fun _ => m) := by
 intro a w K st h
 unfold Oper.wp
 rw [run_callOp ho hx hf hv st, Oper.upon_enter]
 refine (hc w st.mem st.keeps).mono fun e w' ⟨he, hk⟩ => ?_
 subst he
 exact h () trivial _ _ ⟨st.has.putD _ _ hd, st.mem.keep hk, st.keeps.trans hk.weak⟩

/-! ### Regions whose order is drawn -/
/-- the head of a region: one world -/
def OkS (n : Nat) (W : Nat → Prop) (w0 : World) (l : List (Nat × Value)) (m : List Res) (w : World) (F : Act → Prop) : Prop := ∀ a, St n W w0 l m a w → F a

theorem OkS.op {Lq : Act → Prop} {w : World} {d : Nat} {v : Value} (hg : o.guard = none) (hd : o.dst = some d) (hdn : Nat.ble (d + 1) n = true) (hp : Pure P n W w0 l m o v) (h : OkS n W w0 ((d, v) :: l) m w (wpStill P ops w Lq rest)) : OkS n W w0 l m w (wpStill P ops w Lq (o :: rest)) := by
 intro a st
 refine wpStill_step fun K hK => ?_
 rw [if_pos (by simp [Region.wanted, hg])]
 unfold Oper.still
 rw [hp a w st, Oper.stillUpon_value, hd]
 exact hK _ (h _ (st.put v hdn))

theorem OkS.opG {Lq : Act → Prop} {w : World} {d g dg : Nat} {want c : Bool} {og : Oper} {v : Value} (hg : o.guard = some (g, want)) (ho : ops[g]? = some og) (hgd : og.dst = some dg) (hc : look l dg = some (.bool c)) (hcw : (c == want) = true)
  (hd : o.dst = some d) (hdn : Nat.ble (d + 1) n = true) (hp : Pure P n W w0 l m o v) (h : OkS n W w0 ((d, v) :: l) m w (wpStill P ops w Lq rest)) : OkS n W w0 l m w (wpStill P ops w Lq (o :: rest)) := by
 intro a st
 refine wpStill_step fun K hK => ?_
 rw [wanted_of hg ho hgd hc st, if_pos hcw]
 unfold Oper.still
 rw [hp a w st, Oper.stillUpon_value, hd]
 exact hK _ (h _ (st.put v hdn))

theorem OkS.opS {Lq : Act → Prop} {w : World} {d g dg : Nat} {want c : Bool} {og : Oper} (hg : o.guard = some (g, want)) (ho : ops[g]? = some og) (hgd : og.dst = some dg) (hc : look l dg = some (.bool c)) (hcw : (c == want) = false)
  (hd : o.dst = some d) (hdn : Nat.ble (d + 1) n = true) (h : OkS n W w0 ((d, undef) :: l) m w (wpStill P ops w Lq rest)) : OkS n W w0 l m w (wpStill P ops w Lq (o :: rest)) := by
 intro a st
 refine wpStill_step fun K hK => ?_
 rw [wanted_of hg ho hgd hc st, if_neg (by simp [hcw]), hd]
 exact hK _ (h _ (st.put undef hdn))

theorem OkS.opU {Lq : Act → Prop} {w : World} {d g dg : Nat} {want : Bool} {og : Oper} (hg : o.guard = some (g, want)) (ho : ops[g]? = some og) (hgd : og.dst = some dg) (hc : look l dg = some undef)
  (hd : o.dst = some d) (hdn : Nat.ble (d + 1) n = true) (h : OkS n W w0 ((d, undef) :: l) m w (wpStill P ops w Lq rest)) : OkS n W w0 l m w (wpStill P ops w Lq (o :: rest)) := by
 intro a st
 refine wpStill_step fun K hK => ?_
 rw [wanted_un hg ho hgd hc st, if_neg (by simp), hd]
 exact hK _ (h _ (st.put undef hdn))

theorem OkS.split {F : Act → Prop} {w : World} {d : Nat} {c : Bool} (hc : look l d = some (.bool c)) (ht : c = true → OkS n W w0 ((d, .bool true) :: l) m w F) (hf : c = false → OkS n W w0 ((d, .bool false) :: l) m w F) : OkS n W w0 l m w F := by
 cases c with
 | true => exact fun a st => ht rfl a ⟨st.has.dup hc, st.mem, st.keeps⟩
 | false => exact fun a st => hf rfl a ⟨st.has.dup hc, st.mem, st.keeps⟩

/-- the head is done: the tail goes on as a plain list -/
theorem OkS.tail {K : Act → World → Prop} {w : World} (h : Ok n W w0 l m K) : OkS n W w0 l m w (wpStill P ops w (fun a => K a w) []) := fun a st => wpStill_nil (h a w st)

/-- A REGION THAT DRAWS: k operations that only read, then the others in one forced order. -/
theorem Ok.still (k : Nat) {id : Nat} {os hs ts : List Oper} (hm : P.follows .mixedOrders = true) (hB : Region.lexTailB .any os.toArray k = true) (hh : os.take k = hs) (ht : os.drop k = ts)
  (h : ∀ w, OkS n W w0 l m w (wpStill P os.toArray w (fun a => wpList P os.toArray Q ts a w) hs)) : Ok n W w0 l m ((Code.region id os.toArray true).wp P Q) := by
 subst hh ht
 intro a w st
 exact wp_region_still_tail k hm hB (h _ a (st.keep (Keeps.drew none1 w)))

/-- whatever order is picked: under what stays known of the memory -/
def OkH (P : Program) (n : Nat) (W : Nat → Prop) (w0 : World) (mS : List Res) (ops : Array Oper) (Q : Exit → Act → World → Prop) (fuel : Nat) (listed : List Bool) (l : List (Nat × Value)) (m : List Res) : Prop :=
 ∀ a w, St n W w0 l m a w → wpAnyH P .any ops Q (fun w => Mem W w0 mS w ∧ Keeps W w0 w) fuel listed.toArray a w

def setB : List Bool → Nat → List Bool
 | [], _ => []
 | _ :: r, 0 => true :: r
 | b :: r, i + 1 => b :: setB r i

theorem setB_eq : ∀ (l : List Bool) (i : Nat), (setB l i).toArray = l.toArray.setIfInBounds i true
 | l, i => by
  have : setB l i = l.set i true := by
   induction l generalizing i with
   | nil => rfl
   | cons b r ih => cases i <;> simp [setB, ih]
  rw [this]; simp

theorem Ok.held (is : List Nat) {id : Nat} {os : List Oper} {fs : List Bool} (hm : P.follows .mixedOrders = true) (hf : (List.replicate os.length false) = fs) {k : Nat} (hk : os.length = k)
  (h : OkH P n W w0 (selM m is) os.toArray Q k fs l m) : Ok n W w0 l m ((Code.region id os.toArray true).wp P Q) := by
 intro a w st
 refine wp_region_held (S := fun w => Mem W w0 (selM m is) w ∧ Keeps W w0 w) hm ?_
 have := h a w.drew (st.keep (Keeps.drew none1 w))
 rw [← hk, ← hf] at this
 simpa using this

section held
variable {mS : List Res} {fuel : Nat} {listed : List Bool}

/-- take number i first: it yields v whatever the memory, as long as mS holds -/
theorem OkH.take (i : Nat) {oi : Oper} {d : Nat} {v : Value} {listed' : List Bool} (hi : ops[i]? = some oi) (hg : oi.guard = none) (hd : oi.dst = some d) (hdn : Nat.ble (d + 1) n = true)
  (hs : Region.noSelect ops = true) (hf : Region.free .any ops listed.toArray i = true) (hr : (Region.ready .any ops listed.toArray).contains i = true) (hl : setB listed i = listed')
  (hQ : ∀ c a w, Q (.panic c) (a.put (some d) v) w → Q (.panic c) a w) (is : List Nat) (hsel : selM m is = mS) (hasc : nod is = true) (hp : Pure P n W w0 l mS oi v)
  (h : OkH P n W w0 mS ops Q fuel listed' ((d, v) :: l) m) : OkH P n W w0 mS ops Q (fuel + 1) listed l m := by
 intro a w st
 have hS : Mem W w0 mS w ∧ Keeps W w0 w := ⟨hsel ▸ st.mem.sel is hasc, st.keeps⟩
 refine wpAnyH_take hi hs hf hr (by rw [hd]; exact hQ) (.inl ⟨by simp [Region.wanted, hg], fun w' hw' => hp a w' ⟨st.has, hw'.1, hw'.2⟩⟩) hS ?_
 rw [← setB_eq, hl, hd]
 exact h _ _ (st.put v hdn)

theorem OkH.takeG (i : Nat) {oi : Oper} {d g dg : Nat} {want c : Bool} {og : Oper} {v : Value} {listed' : List Bool} (hi : ops[i]? = some oi) (hg : oi.guard = some (g, want)) (ho : ops[g]? = some og) (hgd : og.dst = some dg) (hc : look l dg = some (.bool c)) (hcw : (c == want) = true)
  (hd : oi.dst = some d) (hdn : Nat.ble (d + 1) n = true)
  (hs : Region.noSelect ops = true) (hf : Region.free .any ops listed.toArray i = true) (hr : (Region.ready .any ops listed.toArray).contains i = true) (hl : setB listed i = listed')
  (hQ : ∀ c a w, Q (.panic c) (a.put (some d) v) w → Q (.panic c) a w) (is : List Nat) (hsel : selM m is = mS) (hasc : nod is = true) (hp : Pure P n W w0 l mS oi v)
  (h : OkH P n W w0 mS ops Q fuel listed' ((d, v) :: l) m) : OkH P n W w0 mS ops Q (fuel + 1) listed l m := by
 intro a w st
 have hS : Mem W w0 mS w ∧ Keeps W w0 w := ⟨hsel ▸ st.mem.sel is hasc, st.keeps⟩
 refine wpAnyH_take hi hs hf hr (by rw [hd]; exact hQ) (.inl ⟨by rw [wanted_of hg ho hgd hc st, hcw], fun w' hw' => hp a w' ⟨st.has, hw'.1, hw'.2⟩⟩) hS ?_
 rw [← setB_eq, hl, hd]
 exact h _ _ (st.put v hdn)

theorem OkH.takeS (i : Nat) {oi : Oper} {d g dg : Nat} {want c : Bool} {og : Oper} {listed' : List Bool} (hi : ops[i]? = some oi) (hg : oi.guard = some (g, want)) (ho : ops[g]? = some og) (hgd : og.dst = some dg) (hc : look l dg = some (.bool c)) (hcw : (c == want) = false)
  (hd : oi.dst = some d) (hdn : Nat.ble (d + 1) n = true)
  (hs : Region.noSelect ops = true) (hf : Region.free .any ops listed.toArray i = true) (hr : (Region.ready .any ops listed.toArray).contains i = true) (hl : setB listed i = listed')
  (hQ : ∀ c a w, Q (.panic c) (a.put (some d) undef) w → Q (.panic c) a w) (is : List Nat) (hsel : selM m is = mS) (hasc : nod is = true)
  (h : OkH P n W w0 mS ops Q fuel listed' ((d, undef) :: l) m) : OkH P n W w0 mS ops Q (fuel + 1) listed l m := by
 intro a w st
 have hS : Mem W w0 mS w ∧ Keeps W w0 w := ⟨hsel ▸ st.mem.sel is hasc, st.keeps⟩
 refine wpAnyH_take hi hs hf hr (by rw [hd]; exact hQ) (.inr ⟨by rw [wanted_of hg ho hgd hc st, hcw], rfl⟩) hS ?_
 rw [← setB_eq, hl, hd]
 exact h _ _ (st.put undef hdn)


/-- the only one that may come up now -/
theorem OkH.eff (i : Nat) {oi : Oper} {X : Type} {φ : X → Prop} {l' : X → List (Nat × Value)} {m' : X → List Res} {listed' : List Bool} (hi : ops[i]? = some oi) (hg : oi.guard = none) (hr : Region.ready .any ops listed.toArray = [i]) (hl : setB listed i = listed')
  (is : List Nat) (hsel : ∀ x, selM (m' x) is = mS) (hasc : nod is = true) (he : Eff P n W w0 l m oi Q X φ l' m')
  (h : ∀ x, φ x → OkH P n W w0 mS ops Q fuel listed' (l' x) (m' x)) : OkH P n W w0 mS ops Q (fuel + 1) listed l m := by
 intro a w st
 refine wpAnyH_all hr (by simp) fun j hj => ?_
 have : j = i := by simpa using hj
 subst this
 unfold wpOp
 simp only [hi]
 rw [if_pos (by simp [Region.wanted, hg])]
 refine .inl (he a w _ st fun x hx a' w' st' => ⟨⟨hsel x ▸ st'.mem.sel is hasc, st'.keeps⟩, ?_⟩)
 rw [← setB_eq, hl]
 exact h x hx a' w' st'

theorem OkH.done (hr : Region.ready .any ops listed.toArray = []) (h : Ok n W w0 l m (Q .normal)) : OkH P n W w0 mS ops Q fuel listed l m :=
 fun a w st => wpAnyH_done hr (h a w st) fuel

theorem OkH.split {d : Nat} {c : Bool} (hc : look l d = some (.bool c)) (ht : c = true → OkH P n W w0 mS ops Q fuel listed ((d, .bool true) :: l) m) (hf : c = false → OkH P n W w0 mS ops Q fuel listed ((d, .bool false) :: l) m) : OkH P n W w0 mS ops Q fuel listed l m := by
 cases c with
 | true => exact fun a w st => ht rfl a w ⟨st.has.dup hc, st.mem, st.keeps⟩
 | false => exact fun a w st => hf rfl a w ⟨st.has.dup hc, st.mem, st.keeps⟩

theorem OkH.slots (l' : List (Nat × Value)) (hs : subL l l') (h : OkH P n W w0 mS ops Q fuel listed l' m) : OkH P n W w0 mS ops Q fuel listed l m :=
 fun a w st => h a w ⟨st.has.sub hs, st.mem, st.keeps⟩
end held

/-! ### Loops -/
/-- A LOOP: at the head of every round, for some x with φ x, the slots are L x and the memory M x; μ goes down. -/
theorem Ok.loop {c : Code} {X : Type} (φ : X → Prop) (L : X → List (Nat × Value)) (M : X → List Res) (μ : X → Nat)
    (h0 : ∀ a w, St n W w0 l m a w → ∃ x, φ x ∧ St n W w0 (L x) (M x) a w)
    (h : ∀ x, φ x → Ok n W w0 (L x) (M x) (c.wp P (Exit.then (fun a w => ∃ y, φ y ∧ μ y < μ x ∧ St n W w0 (L y) (M y) a w) Q))) : Ok n W w0 l m ((Code.loop c).wp P Q) := by
  intro a w st
  let I : Act → World → Prop := fun a w => ∃ x, φ x ∧ St n W w0 (L x) (M x) a w
  let G : Act → World → Nat → Prop := fun a w k => ∃ x, φ x ∧ St n W w0 (L x) (M x) a w ∧ μ x = k
  have hmin : ∀ a w, I a w → ∃ k, G a w k ∧ ∀ j, G a w j → k ≤ j := by
    intro a w ⟨x, hx, hs⟩
    have hex : ∃ k, G a w k := ⟨μ x, x, hx, hs, rfl⟩
    clear hx hs
    obtain ⟨k, hk⟩ := hex
    induction k using Nat.strongRecOn with
    | _ k ih =>
      by_cases hc : ∃ j, j < k ∧ G a w j
      · obtain ⟨j, hj, hg⟩ := hc; exact ih j hj hg
      · exact ⟨k, hk, fun j hj => Nat.le_of_not_lt fun hlt => hc ⟨j, hlt, hj⟩⟩
  open Classical in
  let ν : Act → World → Nat := fun a w => if hI : I a w then (hmin a w hI).choose else 0
  have hν : ∀ a w, (hI : I a w) → G a w (ν a w) ∧ ∀ j, G a w j → ν a w ≤ j := by
    intro a w hI
    have := (hmin a w hI).choose_spec
    simp only [ν, dif_pos hI]
    exact this
  refine wp_loop I ν (h0 a w st) fun a w hI => ?_
  obtain ⟨⟨x, hx, hs, hk⟩, _⟩ := hν a w hI
  refine Code.wp_mono (fun e a' w' q => ?_) (h x hx a w hs)
  cases e with
  | normal =>
    obtain ⟨y, hy, hlt, hsy⟩ := q
    refine ⟨⟨y, hy, hsy⟩, ?_⟩
    have := (hν a' w' ⟨y, hy, hsy⟩).2 (μ y) ⟨y, hy, hsy, rfl⟩
    omega
  | _ => exact q

end
end Go.SL
namespace Go.SL
open Go.RowKit

section
variable {P : Program} {n : Nat} {W : Nat → Prop} {w0 : World} {l : List (Nat × Value)} {m : List Res} {ops : Array Oper} {Q : Exit → Act → World → Prop} {rest : List Oper} {o : Oper}

/-! ### Results -/
inductive RV (P : Program) (l : List (Nat × Value)) (m : List Res) : ResultVar → Value → Prop where
 | tmp {t : Tmp} {v : Value} (h : look l t = some v) : RV P l m (.tmp t) v
 | cellA (i : Nat) {t : Tmp} {ty : TypeId} {b k : Nat} {ss q : List Seg} {T : TypeId} {fz : Nat × Nat} (h : look l t = some (.pointer (some ⟨b, 0, none⟩))) (hm : nth m i = some (.blk b (.cells (flat ss) T fz))) (ht : aggB P ty = some true) (hc : cut ss 0 k = some q) (hk : csz P ty = some k) : RV P l m (.cell t ty) (.agg (flat q))
 | cell1 (i : Nat) {t : Tmp} {ty : TypeId} {b : Nat} {ss : List Seg} {T : TypeId} {fz : Nat × Nat} {v : Value} (h : look l t = some (.pointer (some ⟨b, 0, none⟩))) (hm : nth m i = some (.blk b (.cells (flat ss) T fz))) (hv : at1 ss 0 = some v) (ht : aggB P ty = some false) : RV P l m (.cell t ty) v

inductive RVs (P : Program) (l : List (Nat × Value)) (m : List Res) : List ResultVar → List Value → Prop where
 | nil : RVs P l m [] []
 | cons {r : ResultVar} {v : Value} {rs : List ResultVar} {vs : List Value} (h : RV P l m r v) (t : RVs P l m rs vs) : RVs P l m (r :: rs) (v :: vs)

def retv : List Value → Value
 | [v] => v
 | vs => .tuple vs.toArray

def rvSem (tmps : Array Value) : ResultVar → Sem Value
 | .tmp t => pure (tmps.getD t undef)
 | .cell a t => do loadVar t (← asAddr (tmps.getD a undef))

theorem run_rv {r : ResultVar} {v : Value} (h : RV P l m r v) {a : Act} {w : World} (st : St n W w0 l m a w) : (rvSem a.tmps r).run P w = .ok v w := by
 cases h with
 | tmp h => simp [rvSem, st.has.get _ _ h]
 | cellA i h hm ht hc hk =>
  obtain ⟨h1, h2, h3⟩ := cut_spec _ 0 _ _ hc
  rename_i t ty b k ss q T fz
  have hb := st.mem.blk hm
  have hl : (loadCells ⟨b, 0, none⟩ k).run P w = .ok (flat q) w := by
   have := run_loadCells_list (P := P) w ⟨b, 0, none⟩ (flat q).toList (fun j v hj => by
    rw [Addr.add_mid, Lib.cell_of_heap hb]
    rw [← h1] at hj
    simp only [Nat.zero_add] at hj ⊢
    rw [Array.toList_extract, List.extract_eq_take_drop, List.drop_zero, List.getElem?_take] at hj
    split at hj
    ·
     simpa using hj
    ·
     exact absurd hj (by simp))
   rw [Array.length_toList, flat_size, h2] at this
   simpa using this
  simp [rvSem, st.has.get _ _ h, asAddr, loadVar, run_isAgg ht, run_sizeOf hk, hl]
 | cell1 i h hm hv ht =>
  have hb := st.mem.blk hm
  rw [at1_eq] at hv
  have hc := Lib.cell_of_heap hb 0
  rw [hv] at hc
  simp [rvSem, st.has.get _ _ h, asAddr, loadVar, run_isAgg ht, load, Sem.run, hc]

theorem run_rvs {a : Act} {w : World} (st : St n W w0 l m a w) : ∀ {rs : List ResultVar} {vs : List Value}, RVs P l m rs vs → (rs.mapM (rvSem a.tmps)).run P w = .ok vs w
 | _, _, .nil => by simp
 | _, _, .cons h t => by
  have h1 := run_rv h st
  have h2 := run_rvs st t
  rw [List.mapM_cons, Sem.run_bind, h1]
  simp only [Result.andThen_ok]
  rw [Sem.run_bind, h2]
  simp

theorem results_eq (fn : Func) (tmps : Array Value) : results fn tmps = (do let vs ← fn.results.mapM (rvSem tmps); pure (if h : vs.size = 1 then vs[0] else .tuple vs)) := by
 unfold results
 congr 1

theorem resL {fn : Func} {rs : List ResultVar} {vs : List Value} {v : Value} (h : fn.results = rs.toArray) (hr : RVs P l m rs vs) (hv : retv vs = v) : ∀ a w, St n W w0 l m a w → (results fn a.tmps).run P w = .ok v w := by
 intro a w st
 subst hv
 rw [results_eq, h, Array.mapM_eq_mapM_toList]
 have h1 := run_rvs st hr
 simp only [Sem.run_bind, Sem.run_map, h1, Result.andThen_ok]
 match vs with
 | [] => simp [retv]
 | [v] => simp [retv]
 | a :: b :: r => simp [retv]

/-! ### Known truths -/
theorem Ok.condT' {c : Operand} {x y : Code} {t : Bool} (hc : ev l c = some (.bool t)) (ht : t = true) (h : Ok n W w0 l m (x.wp P Q)) : Ok n W w0 l m ((Code.cond c x y).wp P Q) := Ok.condT (ht ▸ hc) h
theorem Ok.condF' {c : Operand} {x y : Code} {t : Bool} (hc : ev l c = some (.bool t)) (ht : t = false) (h : Ok n W w0 l m (y.wp P Q)) : Ok n W w0 l m ((Code.cond c x y).wp P Q) := Ok.condF (ht ▸ hc) h
theorem Ok.setT {K : Act → World → Prop} {d : Nat} {c : Bool} (hc : look l d = some (.bool c)) (ht : c = true) (h : Ok n W w0 ((d, .bool true) :: l) m K) : Ok n W w0 l m K := fun a w st => h a w ⟨st.has.dup (ht ▸ hc), st.mem, st.keeps⟩
theorem Ok.setF {K : Act → World → Prop} {d : Nat} {c : Bool} (hc : look l d = some (.bool c)) (ht : c = false) (h : Ok n W w0 ((d, .bool false) :: l) m K) : Ok n W w0 l m K := fun a w st => h a w ⟨st.has.dup (ht ▸ hc), st.mem, st.keeps⟩
theorem OkS.setT {F : Act → Prop} {w : World} {d : Nat} {c : Bool} (hc : look l d = some (.bool c)) (ht : c = true) (h : OkS n W w0 ((d, .bool true) :: l) m w F) : OkS n W w0 l m w F := fun a st => h a ⟨st.has.dup (ht ▸ hc), st.mem, st.keeps⟩
theorem OkS.setF {F : Act → Prop} {w : World} {d : Nat} {c : Bool} (hc : look l d = some (.bool c)) (ht : c = false) (h : OkS n W w0 ((d, .bool false) :: l) m w F) : OkS n W w0 l m w F := fun a st => h a ⟨st.has.dup (ht ▸ hc), st.mem, st.keeps⟩
theorem OkH.setT {mS : List Res} {fuel : Nat} {listed : List Bool} {d : Nat} {c : Bool} (hc : look l d = some (.bool c)) (ht : c = true) (h : OkH P n W w0 mS ops Q fuel listed ((d, .bool true) :: l) m) : OkH P n W w0 mS ops Q fuel listed l m := fun a w st => h a w ⟨st.has.dup (ht ▸ hc), st.mem, st.keeps⟩
theorem OkH.setF {mS : List Res} {fuel : Nat} {listed : List Bool} {d : Nat} {c : Bool} (hc : look l d = some (.bool c)) (ht : c = false) (h : OkH P n W w0 mS ops Q fuel listed ((d, .bool false) :: l) m) : OkH P n W w0 mS ops Q fuel listed l m := fun a w st => h a w ⟨st.has.dup (ht ▸ hc), st.mem, st.keeps⟩

/-- Ways that meet again. -/
theorem Ok.join {c : Code} {X : Type} (φ : X → Prop) (L : X → List (Nat × Value)) (M : X → List Res) (h : ∀ x, φ x → Ok n W w0 (L x) (M x) (Q .normal)) (h2 : (∀ x, φ x → Ok n W w0 (L x) (M x) (Q .normal)) → Ok n W w0 l m (c.wp P Q)) : Ok n W w0 l m (c.wp P Q) := h2 h

/-- the state, when the slots are spelt otherwise -/
theorem Ok.to {K : Act → World → Prop} {l' : List (Nat × Value)} {m' : List Res} (is : List Nat) (hs : subL l l') (hm : selM m is = m') (ha : nod is = true) (h : Ok n W w0 l' m' K) : Ok n W w0 l m K := Ok.weak l' is hs hm ha h

theorem Ok.via {K : Act → World → Prop} {l' : List (Nat × Value)} {m' : List Res} (h : Ok n W w0 l' m' K) (is : List Nat) (hs : subL l l') (hm : selM m is = m') (ha : nod is = true) : Ok n W w0 l m K := Ok.weak l' is hs hm ha h

theorem St.to {a : Act} {w : World} (st : St n W w0 l m a w) {l' : List (Nat × Value)} {m' : List Res} (is : List Nat) (hs : subL l l') (hm : selM m is = m') (ha : nod is = true) : St n W w0 l' m' a w :=
 ⟨st.has.sub hs, hm ▸ st.mem.sel is ha, st.keeps⟩

/-- the end of a loop's round -/
theorem Ok.round {X : Type} {φ : X → Prop} {L : X → List (Nat × Value)} {M : X → List Res} {μ : X → Nat} {k : Nat} (y : X) (is : List Nat) (hy : φ y) (hμ : μ y < k) (hs : subL l (L y)) (hm : selM m is = M y) (ha : nod is = true) :
 Ok n W w0 l m (fun a w => ∃ y, φ y ∧ μ y < k ∧ St n W w0 (L y) (M y) a w) := fun _ _ st => ⟨y, hy, hμ, st.to is hs hm ha⟩

theorem Eff.ofPure {d : Nat} {v : Value} (hd : o.dst = some d) (hdn : Nat.ble (d + 1) n = true) (hp : Pure P n W w0 l m o v) :
  Eff P n W w0 l m o Q Unit (fun _ => True) (fun _ => (d, v) :: l) (fun _ => m) := by
 intro a w K st h
 unfold Oper.wp
 rw [hp a w st, Oper.upon_value, hd]
 exact h () trivial _ _ (st.put v hdn)

theorem Eff.at {X : Type} {φ : X → Prop} {val : X → Value} {M : X → List Res} {d : Nat} (hd : o.dst = some d) (h : Eff P n W w0 l m o Q X φ (fun x => putD o.dst (val x) l) M) : Eff P n W w0 l m o Q X φ (fun x => (d, val x) :: l) M := by
 rw [hd] at h; exact h

theorem OkH.effG {mS : List Res} {fuel : Nat} {listed : List Bool} (i : Nat) {oi : Oper} {X : Type} {φ : X → Prop} {l' : X → List (Nat × Value)} {m' : X → List Res} {listed' : List Bool} {g dg : Nat} {want c : Bool} {og : Oper} (hi : ops[i]? = some oi) (hg : oi.guard = some (g, want)) (ho : ops[g]? = some og) (hgd : og.dst = some dg) (hc : look l dg = some (.bool c)) (hcw : (c == want) = true)
  (hr : Region.ready .any ops listed.toArray = [i]) (hl : setB listed i = listed')
  (is : List Nat) (hsel : ∀ x, selM (m' x) is = mS) (hasc : nod is = true) (he : Eff P n W w0 l m oi Q X φ l' m')
  (h : ∀ x, φ x → OkH P n W w0 mS ops Q fuel listed' (l' x) (m' x)) : OkH P n W w0 mS ops Q (fuel + 1) listed l m := by
 intro a w st
 refine wpAnyH_all hr (by simp) fun j hj => ?_
 have : j = i := by simpa using hj
 subst this
 unfold wpOp
 simp only [hi]
 rw [wanted_of hg ho hgd hc st, if_pos hcw]
 refine .inl (he a w _ st fun x hx a' w' st' => ⟨⟨hsel x ▸ st'.mem.sel is hasc, st'.keeps⟩, ?_⟩)
 rw [← setB_eq, hl]
 exact h x hx a' w' st'

/-! ### Composite literals -/
inductive VS : Value → List Seg → Prop where
 | one {v : Value} (h : v.oneCell' = true) : VS v [Seg.one v h]
 | agg {q : List Seg} : VS (.agg (flat q)) q

theorem VS.cells {v : Value} {q : List Seg} (h : VS v q) : v.cells = flat q := by
 cases h with
 | one h => cases v <;> simp [Value.oneCell', Value.cells, flat, Seg.cs] at h ⊢
 | agg => rfl

inductive VSs : List (Nat × Value) → List (Nat × List Seg) → Prop where
 | nil : VSs [] []
 | cons {i : Nat} {v : Value} {q : List Seg} {vs : List (Nat × Value)} {qs : List (Nat × List Seg)} (h : VS v q) (r : VSs vs qs) : VSs ((i, v) :: vs) ((i, q) :: qs)

def evp (l : List (Nat × Value)) : List (Nat × Operand) → Option (List (Nat × Value))
 | [] => some []
 | p :: r => match ev l p.2, evp l r with
  | some v, some vs => some ((p.1, v) :: vs)
  | _, _ => none

theorem Has.evp {a : Act} (h : Has n l a) : ∀ {ps : List (Nat × Operand)} {vs : List (Nat × Value)}, evp l ps = some vs → ps.map (fun x => (x.1, a.eval x.2)) = vs
  | [], vs, e => by simp [SL.evp] at e; simp [← e]
  | x :: xs, vs, e => by
    unfold SL.evp at e
    cases h1 : SL.ev l x.2 with
    | none => simp [h1] at e
    | some v =>
      cases h2 : SL.evp l xs with
      | none => simp [h1, h2] at e
      | some ws =>
        simp only [h1, h2, Option.some.injEq] at e
        subst e
        simp [h.ev h1, h.evp h2]

def plc (P : Program) (t : TypeId) : Option (List (Nat × Nat)) :=
 match P.underlying t with
 | some (.struct fields) => fields.toList.mapM (fun f => (P.info? f.type).map fun i => (f.offset, i.size))
 | some (.array k e) => (P.info? e).map fun i => (List.range k).map fun j => (j * i.size, i.size)
 | _ => none

def fillS (pl : List (Nat × Nat)) : List Seg → List (Nat × List Seg) → Option (List Seg)
  | z, [] => some z
  | z, p :: r => match nth pl p.1 with
    | some (off, k) => bif Nat.beq (width p.2) k then
        match spl z off p.2 k with
        | some z' => fillS pl z' r
        | none => none
      else none
    | none => none

theorem foldl_zipIdx_get (off : Nat) : ∀ (vs : List Value) (k : Nat) (cells : Array Value) (j : Nat),
  ((vs.zipIdx k).foldl (fun cs (x : Value × Nat) => cs.setIfInBounds (off + x.2) x.1) cells)[j]? =
   if off + k ≤ j ∧ j < off + k + vs.length ∧ j < cells.size then vs[j - (off + k)]? else cells[j]?
 | [], k, cells, j => by
  simp
  intro h1 h2 h3
  omega
 | v :: vs, k, cells, j => by
  rw [List.zipIdx_cons, List.foldl_cons, foldl_zipIdx_get off vs (k + 1)]
  simp only [List.length_cons, Array.size_setIfInBounds]
  by_cases h1 : off + k ≤ j ∧ j < off + k + (vs.length + 1) ∧ j < cells.size
  ·
   rw [if_pos h1]
   by_cases h2 : j = off + k
   ·
    subst h2
    rw [if_neg (by omega)]
    simp [h1.2.2]
   ·
    rw [if_pos (by omega)]
    rw [show j - (off + k) = (j - (off + (k + 1))) + 1 by omega]
    simp
  ·
   rw [if_neg h1, if_neg (by omega)]
   by_cases h2 : off + k = j
   ·
    subst h2
    have : ¬ off + k < cells.size := by omega
    simp [this]
   ·
    rw [Array.getElem?_setIfInBounds_ne h2]

theorem foldl_zipIdx (off : Nat) (vs cells : Array Value) (h : off + vs.size ≤ cells.size) :
  vs.zipIdx.foldl (fun cs (x : Value × Nat) => cs.setIfInBounds (off + x.2) x.1) cells = cells.extract 0 off ++ vs ++ cells.extract (off + vs.size) cells.size := by
 have e : vs.zipIdx.foldl (fun cs (x : Value × Nat) => cs.setIfInBounds (off + x.2) x.1) cells = (vs.toList.zipIdx 0).foldl (fun cs (x : Value × Nat) => cs.setIfInBounds (off + x.2) x.1) cells := by
  rw [← Array.foldl_toList]; simp
 rw [e]
 apply Array.ext_getElem?
 intro j
 rw [foldl_zipIdx_get]
 simp only [Nat.add_zero, Array.length_toList]
 by_cases h1 : j < off
 ·
  rw [if_neg (by omega)]
  rw [Array.getElem?_append_left (by simp; omega), Array.getElem?_append_left (by simp; omega)]
  simp [Array.getElem?_extract]
  intro h2
  omega
 ·
  by_cases h2 : j < off + vs.size
  ·
   rw [if_pos (by omega)]
   rw [Array.getElem?_append_left (by simp; omega), Array.getElem?_append_right (by simp; omega)]
   have : (cells.extract 0 off).size = off := by simp; omega
   rw [this]
   simp
  ·
   rw [if_neg (by omega)]
   rw [Array.getElem?_append_right (by simp; omega)]
   have : (cells.extract 0 off ++ vs).size = off + vs.size := by simp; omega
   rw [this, Array.getElem?_extract]
   by_cases h3 : j < cells.size
   ·
    rw [if_pos (by omega)]
    congr 1
    omega
   ·
    rw [if_neg (by omega)]
    simp
    omega

theorem fill_segs (pl : List (Nat × Nat)) (place : Nat → Option (Nat × Nat)) (hpl : ∀ i p, pl[i]? = some p → place i = some p) : ∀ {vs : List (Nat × Value)} {qs : List (Nat × List Seg)} (_ : VSs vs qs) (z z' : List Seg), fillS pl z qs = some z' → Instr.fill place (flat z) vs = some (flat z')
  | _, _, .nil, z, z', h => by simp [fillS] at h; subst h; simp [Instr.fill]
  | _, _, .cons (i := i) (v := v) (q := q) hv r, z, z', h => by
    unfold fillS at h
    rw [nth_eq] at h
    cases hp : pl[i]? with
    | none => simp [hp] at h
    | some p =>
      obtain ⟨off, k⟩ := p
      simp only [hp] at h
      cases hb : Nat.beq (width q) k with
      | false => simp [hb] at h
      | true =>
        have hw : width q = k := Nat.eq_of_beq_eq_true hb
        simp only [hb, cond_true] at h
        cases hs : spl z off q k with
        | none => simp [hs] at h
        | some z1 =>
          simp only [hs] at h
          obtain ⟨h1, h2⟩ := spl_spec z off k q z1 hs hw
          have hsz : v.cells.size = k := by rw [hv.cells, flat_size, hw]
          unfold Instr.fill
          simp only [hpl i _ hp]
          rw [if_neg (by simp [hsz, flat_size]; omega)]
          have := foldl_zipIdx off v.cells (flat z) (by rw [hsz, flat_size]; exact h1)
          rw [this, hsz, hv.cells, ← h2]
          exact fill_segs pl place hpl r z1 z' h

theorem built_segs {t : TypeId} {vs : List (Nat × Value)} {qs : List (Nat × List Seg)} {pl : List (Nat × Nat)} {zs z' : List Seg} (hq : VSs vs qs) (hp : plc P t = some pl) (hz : zcells P t = some (flat zs)) (hf : fillS pl zs qs = some z') : P.built t vs = some (flat z') := by
  unfold plc at hp
  unfold zcells at hz
  unfold Program.built
  cases hi : P.info? t with
  | none => simp [hi] at hz
  | some it =>
    cases hzz : it.zero with
    | none => simp [hi, hzz] at hz
    | some z =>
      simp [hi, hzz] at hz
      cases hu : P.underlying t with
      | none => simp [hu] at hp
      | some d =>
        cases d <;> simp only [hu] at hp <;> try (simp at hp; done)
        · rename_i k e
          cases he : P.info? e with
          | none => simp [he] at hp
          | some ie =>
            simp only [he, Option.map_some, Option.some.injEq] at hp
            simp only [hzz, he, hz]
            refine fill_segs pl _ (fun i p h => ?_) hq zs z' hf
            rw [← hp, List.getElem?_map] at h
            cases hr : (List.range k)[i]? with
            | none => simp [hr] at h
            | some j =>
              have : j = i := by
                have := List.getElem?_eq_some_iff.1 hr
                obtain ⟨h1, h2⟩ := this
                simpa using h2.symm
              subst this
              simpa [hr] using h
        · simp only [hzz, hp, hz]
          exact fill_segs pl _ (fun i p h => by simpa using h) hq zs z' hf

theorem Pure.build {t : TypeId} {ps : List (Nat × Operand)} {vs : List (Nat × Value)} {qs : List (Nat × List Seg)} {z' : List Seg} (pl : List (Nat × Nat)) (zs : List Seg) (ho : o.op = .build t ps.toArray) (hv : evp l ps = some vs) (hq : VSs vs qs) (hp : plc P t = some pl) (hz : zcells P t = some (flat zs)) (hf : fillS pl zs qs = some z') :
  Pure P n W w0 l m o (.agg (flat z')) := fun a w st => by
 have h1 : (Array.map (fun x : Nat × Operand => (x.1, a.eval x.2)) ps.toArray) = vs.toArray := by rw [List.map_toArray, st.has.evp hv]
 have h2 := run_build (P := P) w t vs.toArray _ (by simpa using built_segs hq hp hz hf)
 simp [execOp, ho, h1, h2]

/-- a literal whose value is closed -/
theorem Pure.buildK {t : TypeId} {ps : List (Nat × Operand)} {vs : List (Nat × Value)} {q : List Seg} (ho : o.op = .build t ps.toArray) (hv : evp l ps = some vs) (hb : P.built t vs = some (flat q)) : Pure P n W w0 l m o (.agg (flat q)) := fun a w st => by
 have h1 : (Array.map (fun x : Nat × Operand => (x.1, a.eval x.2)) ps.toArray) = vs.toArray := by rw [List.map_toArray, st.has.evp hv]
 have h2 := run_build (P := P) w t vs.toArray _ (by simpa using hb)
 simp [execOp, ho, h1, h2]

/-! ### Division -/
theorem Pure.quoI {x y : Operand} {p q : Int} {t t' : TypeId} (ho : o.op = .binOp .quo t x y t') (hx : ev l x = some (.int .i64 p)) (hy : ev l y = some (.int .i64 q)) (h0 : 0 ≤ p) (h1 : p ≤ 9223372036854775807) (h2 : 0 < q) : Pure P n W w0 l m o (.int .i64 (p / q)) :=
 fun a w st => by
  have e1 : p.tdiv q = p / q := Int.tdiv_eq_ediv_of_nonneg h0
  have e2 : 0 ≤ p / q := Int.ediv_nonneg h0 (by omega)
  have e3 : p / q ≤ p := Int.ediv_le_self q h0
  have e4 : ¬ q = 0 := by omega
  simp [execOp, ho, st.has.ev hx, st.has.ev hy, eqGuard, binOp, Op.intDiv, e4, e1, wrap_i64_id (p := p / q) (by omega) (by omega)]

theorem Pure.remI {x y : Operand} {p q : Int} {k : IntKind} {t t' : TypeId} (ho : o.op = .binOp .rem t x y t') (hx : ev l x = some (.int k p)) (hy : ev l y = some (.int k q)) (h0 : 0 ≤ p) (h1 : 0 < q) (_h2 : 0 < q) : Pure P n W w0 l m o (.int k (p % q)) :=
 fun a w st => by
  have e1 : p.tmod q = p % q := Int.tmod_eq_emod_of_nonneg h0
  have e4 : ¬ q = 0 := by omega
  simp [execOp, ho, st.has.ev hx, st.has.ev hy, eqGuard, binOp, Op.intDiv, e4, e1]

end
end Go.SL
namespace Go.SL
open Go.RowKit

section
variable {P : Program}

/-- not nil, and no room at all: that no row of ours is that is read by unsafe.SliceData -/
def okV : Value → Prop
 | .slice (some _) _ 0 => False
 | _ => True

theorem okV_new {c : Nat} {a : Addr} (n : Nat) (h : 0 < c) : okV (.slice (some a) n c) := by
 cases c with
 | zero => omega
 | succ c => trivial

theorem append_row (w : World) (t tx ty e : TypeId) (i : TypeInfo) (z : Value) (ht : P.underlying t = some (.slice e)) (hi : P.info? e = some i) (hz : i.zero = some z) (hzs : z.cells.size = i.size) (hpos : 0 < i.size)
  (v : Value) (n : Nat) (xs : List Value) (hown : w.ownsRowF 0 e i.size v n xs) (x : Value) (m : Nat) (news : List Value) (hs : Src P i.size tx x m news w) (h63 : n + m ≤ maxLen) (hbytes : (n + m) * i.bytes ≤ 140737488355328) :
  ∃ v' w', (Builtin.append_ #[t, tx] ty #[v, x]).run P w = .ok v' w' ∧ w'.ownsRowF 0 e i.size v' (n + m) (xs ++ news) ∧ w.grownBy w' v.ownBlock ∧ (∀ k, v'.ownBlock = some k → v.ownBlock = some k ∨ w.heap.size ≤ k) ∧ ((v' = .slice none 0 0 ↔ v = .slice none 0 0 ∧ m = 0) ∧ (okV v → okV v')) := by
 have hsmall : n + m ≤ 9223372036854775807 := by simp only [maxLen] at h63; omega
 have hxl : xs.length = n * i.size := hown.1
 have hlen : (xs ++ news).length = (n + m) * i.size := by rw [List.length_append, hxl, hs.newsLen, Nat.add_mul]
 -- a new row
 have hnew : ∀ (base : Option Addr) (cap : Nat), (Builtin.firstCells i.size n (.slice base n cap)).run P w.drew = .ok xs.toArray w.drew → cap < n + m →
   ∃ w', (Builtin.append_ #[t, tx] ty #[.slice base n cap, x]).run P w = .ok (.slice (some ⟨w.heap.size, 0, none⟩) (n + m) (grownCap w (n + m) cap e)) w' ∧ w'.ownsRowF 0 e i.size (.slice (some ⟨w.heap.size, 0, none⟩) (n + m) (grownCap w (n + m) cap e)) (n + m) (xs ++ news) ∧ ∀ row, w.grownBy w' row := by
  intro base cap hold hg
  have hr := run_append_grow_src w t tx ty e i z ht hi hz base n cap xs hold x m news hs hg (by omega) (growslice_fits (by omega) (by omega))
  have hge := grownCap_ge w (n + m) cap e
  have hcm2 : grownCap w (n + m) cap e ≤ maxLen := grownCap_le_maxLen w (n + m) cap e h63
  refine ⟨_, hr, ⟨hlen, .inr ⟨w.heap.size, _, _, (0, 0), rfl, Nat.zero_le _, heap_alloc_new w.drew _, Nat.zero_le _, hge, hcm2, ?_, ?_⟩⟩, fun row => ⟨rfl, rfl, rfl, by simp, fun k hk _ => by first | exact heap_alloc_old w.drew _ hk | exact heap_alloc_old w.drew _ k hk⟩⟩
  ·
   simp only [Array.size_append, List.size_toArray, size_zeroCells, hzs, hlen]
   rw [← Nat.add_mul]
   congr 1
   omega
  ·
   simp only [Array.toList_append, ← hlen]
   exact List.take_left
 rcases hown.2 with ⟨rfl, rfl⟩ | ⟨g, cap, cur, fz, rfl, hbg, hg, hfz, hnc, hcm, hcs, htake⟩
 ·
  by_cases hm : m = 0
  ·
   subst hm
   have hx0 : xs = [] := List.eq_nil_of_length_eq_zero (by simpa using hxl)
   have hn0 : news = [] := List.eq_nil_of_length_eq_zero (by simpa using hs.newsLen)
   subst hx0 hn0
   refine ⟨.slice none 0 0, w, ?_, World.ownsRowF_nil _ _ _ _, ⟨rfl, rfl, rfl, Nat.le_refl _, fun _ _ _ => rfl⟩, by simp [Value.ownBlock], by simp, fun h => h⟩
   have hc := hs.cells
   have hl := hs.len
   rcases hs.kind with ⟨e', hk⟩ | hk <;> simp [Builtin.append_, run_underlying ht, run_underlying hk, sizeOf, typeInfo, hi, hl, hc]
  ·
   have hx0 : xs = [] := List.eq_nil_of_length_eq_zero (by simpa using hxl)
   obtain ⟨w', h1, h2, h3⟩ := hnew none 0 (by subst hx0; simp [Builtin.firstCells]) (by omega)
   exact ⟨_, w', h1, h2, h3 _, fun k hk => .inr (by simp [Value.ownBlock] at hk; omega), by simp [hm], fun _ => okV_new _ (by have := grownCap_ge w (0 + m) 0 e; omega)⟩
 ·
  by_cases hroom : n + m ≤ cap
  ·
   have hsz : n * i.size + m * i.size ≤ cur.size := by rw [hcs, ← Nat.add_mul]; exact Nat.mul_le_mul_right _ hroom
   have hst := run_storeCells_atF P g (n * i.size) e fz news 0 cur w hg (by simpa using hfz) (by rw [hs.newsLen]; simpa using hsz) hs.one
   simp only [Nat.add_zero, hs.newsLen] at hst
   have hr : (Builtin.append_ #[t, tx] ty #[.slice (some ⟨g, 0, none⟩) n cap, x]).run P w = .ok (.slice (some ⟨g, 0, none⟩) (n + m) cap) (w.setRow g (cur.toList.take (n * i.size) ++ news ++ cur.toList.drop (n * i.size + m * i.size)).toArray) := by
    rcases hs.kind with ⟨e', hk⟩ | hk <;> simp [Builtin.append_, run_underlying ht, run_underlying hk, sizeOf, typeInfo, hi, hs.len, hroom, hs.cells, Addr.add_lit, hst]
   refine ⟨_, _, hr, ⟨hlen, .inr ⟨g, cap, _, fz, rfl, hbg, setRow_heap w g cur _ e _ hg, ?_, hroom, hcm, ?_, ?_⟩⟩, ⟨rfl, rfl, rfl, by simp, fun k _ hk => setRow_other w g k _ (fun e => hk (by simp [Value.ownBlock, e]))⟩, fun k hk => .inl hk, by simp, fun h => by cases cap with | zero => exact h.elim | succ c => trivial⟩
   ·
    rw [Nat.add_mul]; omega
   ·
    simp only [List.size_toArray, List.length_append, List.length_take, List.length_drop, Array.length_toList, hs.newsLen]
    omega
   ·
    rw [htake, ← hlen]
    exact List.take_left
  ·
   have hold : (Builtin.firstCells i.size n (.slice (some ⟨g, 0, none⟩) n cap)).run P w.drew = .ok xs.toArray w.drew :=
    run_firstCells_some w.drew i.size n ⟨g, 0, none⟩ n cap xs hxl (fun j u hu => by simpa using hown.cells (g := g) rfl j u hu)
   obtain ⟨w', h1, h2, h3⟩ := hnew _ cap hold (by omega)
   exact ⟨_, w', h1, h2, h3 _, fun k hk => .inr (by simp [Value.ownBlock] at hk; omega), by simp, fun _ => okV_new _ (by have := grownCap_ge w (n + m) cap e; omega)⟩
theorem csz_info {t : TypeId} {k : Nat} (h : csz P t = some k) : ∃ i, P.info? t = some i ∧ i.size = k := by
 unfold csz at h
 cases hi : P.info? t with
 | none => simp [hi] at h
 | some i => exact ⟨i, rfl, by simpa [hi] using h⟩

/-- what an element type must be for a row to grow: its size, its bytes, a zero of that size -/
def rowInfo (P : Program) (e : TypeId) : Option (Nat × Nat) :=
 match P.info? e with
 | some i => match i.zero with
  | some z => if z.cells.size = i.size ∧ 0 < i.size then some (i.size, i.bytes) else none
  | none => none
 | none => none

theorem rowInfo_spec {e : TypeId} {sz by' : Nat} (h : rowInfo P e = some (sz, by')) : ∃ i z, P.info? e = some i ∧ i.zero = some z ∧ z.cells.size = i.size ∧ 0 < i.size ∧ i.size = sz ∧ i.bytes = by' := by
  unfold rowInfo at h
  cases hi : P.info? e with
  | none => simp [hi] at h
  | some i =>
    cases hz : i.zero with
    | none => simp [hi, hz] at h
    | some z =>
      simp only [hi, hz] at h
      by_cases hc : z.cells.size = i.size ∧ 0 < i.size
      · rw [if_pos hc] at h
        simp at h
        exact ⟨i, z, rfl, hz, hc.1, hc.2, h.1, h.2⟩
      · rw [if_neg hc] at h; cases h

def bytesV (s : List UInt8) : List Value := s.map fun x => Value.int .u8 x.toNat

theorem byteCells_str (s : List UInt8) : byteCells ⟨s.toArray⟩ = bytesV s := by simp [byteCells, bytesV]
theorem bytesV_length (s : List UInt8) : (bytesV s).length = s.length := by simp [bytesV]
theorem bytesV_append (s t : List UInt8) : bytesV (s ++ t) = bytesV s ++ bytesV t := by simp [bytesV]

variable {n : Nat} {W : Nat → Prop} {w0 : World} {l : List (Nat × Value)} {m : List Res} {ops : Array Oper} {Q : Exit → Act → World → Prop} {rest : List Oper} {o : Oper}

theorem Post.row {w w' : World} {i : Nat} {r r' : Res} (hm : nth m i = some r) (hg : w.grownBy w' r.block) (hr : r'.holds w') (hb : ∀ k, r'.block = some k → r.block = some k ∨ w.heap.size ≤ k) : Post w (blocksOf (selM m [i])) [r'] w' := by
 have hsel : selM m [i] = [r] := by simp [selM, hm]
 rw [hsel]
 refine ⟨⟨hg.os, hg.tape, hg.output, hg.size, fun k hk hn => hg.block k hk fun e => hn ⟨r, by simp, e.symm⟩⟩, ⟨?_, ?_, by simp⟩⟩
 ·
  intro x hx
  have : x = r' := by simpa using hx
  subst this; exact hr
 ·
  intro x hx k hk
  have : x = r' := by simpa using hx
  subst this
  rcases hb k hk with h | h
  ·
   exact .inr ⟨r, by simp, h⟩
  ·
   exact .inl h

/-- append(v, x) onto a row of ours, x whatever yields 'news' -/
theorem Eff.appendG {sl x : Operand} {t tx e : TypeId} {d sz by' k mm : Nat} {v xv : Value} {xs news : List Value} (i : Nat) (js : List Nat) (ho : o.op = .call { callee := .builtin .append, args := #[sl, x], argTypes := #[t, tx] }) (hv : ev l sl = some v) (hx : ev l x = some xv)
  (hm : nth m i = some (.row v e sz k xs)) (ht : P.underlying t = some (.slice e)) (hi : rowInfo P e = some (sz, by')) (hs : ∀ w, Mem W w0 m w → Keeps W w0 w → Src P sz tx xv mm news w)
  (hd : o.dst = some d) (hdn : Nat.ble (d + 1) n = true) (hdj : disj [i] js = true) (hjs : nod js = true) (hb : k + mm ≤ 140737488355328) (hb2 : (k + mm) * by' ≤ 140737488355328) :
  Eff P n W w0 l m o Q Value (fun v' => (v' = .slice none 0 0 ↔ v = .slice none 0 0 ∧ mm = 0) ∧ (okV v → okV v')) (fun v' => (d, v') :: l) (fun v' => .row v' e sz (k + mm) (xs ++ news) :: selM m js) := by
 intro a w K st h
 obtain ⟨inf, z, hi1, hz, hzs, hpos, hsz, hby⟩ := rowInfo_spec hi
 subst hsz hby
 have hown : w.ownsRowF 0 e inf.size v k xs := by
  rw [nth_eq] at hm
  exact st.mem.holds _ (List.mem_of_getElem? hm)
 obtain ⟨v', w', h1, h2, h3, h4, h5⟩ := append_row w t tx o.type e inf z ht hi1 hz hzs hpos v k xs hown xv mm news (hs w st.mem st.keeps) (by unfold maxLen; omega) hb2
 have hr : (execOp a.eval o).run P w = .ok (.value v') w' := by
  simp [execOp, ho, resolve, invoke, builtin, st.has.ev hv, st.has.ev hx, h1]
 unfold Oper.wp
 rw [hr, Oper.upon_value, hd]
 have hp : Post w (blocksOf (selM m [i])) [.row v' e inf.size (k + mm) (xs ++ news)] w' := Post.row hm h3 h2 h4
 exact h v' h5 _ _ ⟨st.has.put _ hdn, by simpa using st.mem.after st.keeps.size hdj hjs hp, st.keeps.after st.mem hp⟩


/-- an owned row's value is a slice of its length -/
theorem row_shape {w : World} {v : Value} {e : TypeId} {sz k : Nat} {xs : List Value} (h : w.ownsRowF 0 e sz v k xs) : ∃ p c, v = .slice p k c := by
 rcases h.2 with ⟨rfl, rfl⟩ | ⟨g, cap, cur, fz, rfl, _⟩
 ·
  exact ⟨_, _, rfl⟩
 ·
  exact ⟨_, _, rfl⟩

/-- to know that a row's value is a slice -/
theorem Ok.rowShape {K : Act → World → Prop} (i : Nat) {v : Value} {e : TypeId} {sz k : Nat} {xs : List Value} (hm : nth m i = some (.row v e sz k xs)) (h : (∃ p c, v = .slice p k c) → xs.length = k * sz → k ≤ maxLen → Ok n W w0 l m K) : Ok n W w0 l m K := fun a w st => by
 have hown : w.ownsRowF 0 e sz v k xs := by rw [nth_eq] at hm; exact st.mem.holds _ (List.mem_of_getElem? hm)
 refine h (row_shape hown) hown.1 ?_ a w st
 rcases hown.2 with ⟨_, rfl⟩ | ⟨g, cap, cur, fz, _, _, _, _, h1, h2, _⟩
 ·
  exact Nat.zero_le _
 ·
  omega
/-! ### unsafe: a Builder's string -/
theorem Pure.sliceData {x : Operand} {p : Option Addr} {k c : Nat} {ts : Array TypeId} (ho : o.op = .call { callee := .builtin .unsafeSliceData, args := #[x], argTypes := ts }) (hx : ev l x = some (.slice p k c)) (hok : okV (.slice p k c)) : Pure P n W w0 l m o (.pointer p) :=
  fun a w st => by
    cases p with
    | none => simp [execOp, ho, resolve, invoke, builtin, st.has.ev hx, Lib.run_unsafeSliceData_nil]
    | some q =>
      have hc : c ≠ 0 := by cases c with
        | zero => exact hok.elim
        | succ c => omega
      simp [execOp, ho, resolve, invoke, builtin, st.has.ev hx, Lib.run_unsafeSliceData_row w _ _ q k c hc]

theorem Eff.unsafeString {x y : Operand} {p : Option Addr} {k c : Nat} {tp ti e : TypeId} {d : Nat} {s : List UInt8} (i : Nat) (js : List Nat) (ho : o.op = .call { callee := .builtin .unsafeString, args := #[x, y], argTypes := #[tp, ti] }) (hx : ev l x = some (.pointer p)) (hy : ev l y = some (.int .i64 s.length))
  (hm : nth m i = some (.row (.slice p k c) e 1 s.length (bytesV s))) (htp : P.underlying tp = some (.pointer e)) (hce : P.cellsOf e = 1) (hd : o.dst = some d) (hdn : Nat.ble (d + 1) n = true) (hdj : disj [i] js = true) (hjs : nod js = true) :
  Eff P n W w0 l m o Q Unit (fun _ => True) (fun _ => (d, str s) :: l) (fun _ => .row (.slice p k c) e 1 s.length (bytesV s) :: selM m js) := by
 intro a w K st h
 have hown : w.ownsRowF 0 e 1 (.slice p k c) s.length (bytesV s) := by
  rw [nth_eq] at hm
  exact st.mem.holds _ (List.mem_of_getElem? hm)
 have hrun : ∃ w', (Builtin.unsafeString_ #[tp, ti] o.type #[.pointer p, .int .i64 s.length]).run P w = .ok (str s) w' ∧ w'.ownsRowF 0 e 1 (.slice p k c) s.length (bytesV s) ∧ w.grownBy w' (Value.slice p k c).ownBlock := by
  by_cases h0 : s = []
  ·
   subst h0
   exact ⟨w, Lib.run_unsafeString_none (P := P) w tp ti o.type p, hown, ⟨rfl, rfl, rfl, Nat.le_refl _, fun _ _ _ => rfl⟩⟩
  ·
   have hl0 : s.length ≠ 0 := by simpa using h0
   rcases hown.2 with ⟨_, hz⟩ | ⟨g, cap, cur, fz, hv, hbg, hg, hfz, hnc, hcm, hcs, htake⟩
   ·
    exact absurd hz hl0
   ·
    simp only [Value.slice.injEq] at hv
    obtain ⟨rfl, rfl, rfl⟩ := hv
    have hcells := hown.cells (g := g) rfl
    refine ⟨_, Lib.run_unsafeString_row w tp ti o.type e htp hce g cur.size (by simp [World.shape?, hg]) s h0 (by omega) (by unfold maxLen at hcm; omega) (fun j x hj => hcells j _ (by simp [bytesV, hj])), ⟨hown.1, .inr ?_⟩, ?_⟩
    ·
     unfold World.freeze
     rw [if_neg hl0]
     refine ⟨g, c, cur, (if fz.1 == fz.2 then (0, 0 + s.length) else (min fz.1 0, max fz.2 (0 + s.length))), rfl, hbg, ?_, ?_, hnc, hcm, hcs, htake⟩
     ·
      obtain ⟨lo, hi⟩ := fz
      simp [Array.getElem?_modify, hg]
     ·
      split
      ·
       simp
      ·
       simp only; omega
    ·
     unfold World.freeze
     rw [if_neg hl0]
     refine ⟨rfl, rfl, rfl, by simp, fun j hj hne => ?_⟩
     simp only [Array.getElem?_modify]
     rw [if_neg (fun e => hne (by simp [Value.ownBlock, e]))]
 obtain ⟨w', h1, h2, h3⟩ := hrun
 have hr : (execOp a.eval o).run P w = .ok (.value (str s)) w' := by
  simp [execOp, ho, resolve, invoke, builtin, st.has.ev hx, st.has.ev hy, h1]
 unfold Oper.wp
 rw [hr, Oper.upon_value, hd]
 have hp : Post w (blocksOf (selM m [i])) [.row (.slice p k c) e 1 s.length (bytesV s)] w' := Post.row hm h3 h2 (fun k hk => .inl hk)
 exact h () trivial _ _ ⟨st.has.put _ hdn, by simpa using st.mem.after st.keeps.size hdj hjs hp, st.keeps.after st.mem hp⟩

/-! ### pointers one with the other; through unsafe.Pointer and back -/
theorem run_equalIn_ptr_self {t e : TypeId} {k : Nat} (ht : P.underlying t = some (.pointer e)) (hk : csz P e = some k) (d : Nat) (a : Addr) (w : World) : (Op.equalIn (d + 1) t (.pointer (some a)) (.pointer (some a))).run P w = .ok true w := by
 simp [Op.equalIn, run_underlying ht, run_sizeOf hk, sameAddr]

theorem Pure.neSelf {x y : Operand} {t t' e : TypeId} {a : Addr} {k : Nat} (ho : o.op = .binOp .neq t x y t') (hx : ev l x = some (.pointer (some a))) (hy : ev l y = some (.pointer (some a))) (ht : P.underlying t = some (.pointer e)) (hk : csz P e = some k) : Pure P n W w0 l m o (.bool false) :=
 fun b w st => by
  have h1 : (Op.equal t (.pointer (some a)) (.pointer (some a))).run P w = .ok true w := run_equalIn_ptr_self ht hk 9999 a w
  have h2 : (binOp .neq t (.pointer (some a)) (.pointer (some a))).run P w = .ok (.bool false) w := by
   simp only [binOp]
   simp [h1]
  simp [execOp, ho, st.has.ev hx, st.has.ev hy, eqGuard, h2]

theorem Pure.toUnsafe {x : Operand} {s t e T : TypeId} {b off k : Nat} {cs : Array Value} {fz : Nat × Nat} (i : Nat) (ho : o.op = .convert s t x) (hx : ev l x = some (.pointer (some ⟨b, off, none⟩))) (hs : P.underlying s = some (.pointer e)) (ht : P.underlying t = some .unsafePointer) (hk : csz P e = some (k + 1))
  (hm : nth m i = some (.blk b (.cells cs T fz))) (hoff : off < cs.size) : Pure P n W w0 l m o (.pointer (some ⟨b, off, none⟩)) :=
 fun a w st => by
  obtain ⟨j, hj, hjs⟩ := csz_info hk
  have hb := st.mem.blk hm
  have := Lib.run_to_unsafe (P := P) w (src := s) (dst := t) ⟨b, off, none⟩ hs ht hj (by omega) (e := T) (cells := cs.size) (by simp [World.shape?, hb]) hoff
  simp [execOp, ho, st.has.ev hx, this]

theorem Pure.fromUnsafe {x : Operand} {s t e T : TypeId} {b off k : Nat} {cs : Array Value} {fz : Nat × Nat} (i : Nat) (ho : o.op = .convert s t x) (hx : ev l x = some (.pointer (some ⟨b, off, none⟩))) (hs : P.underlying s = some .unsafePointer) (ht : P.underlying t = some (.pointer e)) (hk : csz P e = some k)
  (hm : nth m i = some (.blk b (.cells cs T fz))) (hl : liesAt P P.depth T (cs.size / P.cellsOf T) off e 1 = true) : Pure P n W w0 l m o (.pointer (some ⟨b, off, none⟩)) :=
 fun a w st => by
  obtain ⟨j, hj, hjs⟩ := csz_info hk
  have hb := st.mem.blk hm
  have := Lib.run_from_unsafe (P := P) w (src := s) (dst := t) ⟨b, off, none⟩ hs ht hj (e := T) (cells := cs.size) (by simp [World.shape?, hb]) hl
  simp [execOp, ho, st.has.ev hx, this]

theorem Pure.noEscape {x : Operand} {f : FuncId} {fn : Func} {v : Value} {ts : Array TypeId} (ho : o.op = .call { callee := .value (.func f), args := #[x], argTypes := ts }) (hx : ev l x = some v) (hf : P.funcs[f]? = some fn) (hname : (fn.name == "runtime.NumGoroutine") = false)
  (hb : fn.body.isNone = true) (hn : Extern.findNext fn = none) (he : Extern.find fn = some Extern.AbiNoEscape.same) : Pure P n W w0 l m o v :=
 fun a w st => by
  have := run_callFunc_extern hf hname hb hn he #[v] w
  rw [Lib.run_noEscape] at this
  have h2 : a.eval (.func f) = .func (.func f) #[] #[] := rfl
  simp only [Result.andThen_ok] at this
  simp [execOp, ho, resolve, h2, Deferred.ofValue, invoke, st.has.ev hx, this]

/-! ### parts of a block known by what stands before and behind them -/
theorem at1_pre (pre r : List Seg) (k : Nat) : at1 (pre ++ r) (width pre + k) = at1 r k := by
 rw [at1_eq, at1_eq, flat_append, Array.getElem?_append_right (by rw [flat_size]; omega), flat_size]
 congr 1
 omega

theorem dropS_zero (l : List Seg) : dropS l 0 = some l := by cases l <;> rfl

theorem spl_pre : ∀ (pre r : List Seg) (k : Nat) (q : List Seg) (z : Nat), pre.all (fun s => Nat.ble 1 s.n) = true → spl (pre ++ r) (width pre + k) q z = (spl r k q z).map (pre ++ ·)
 | [], r, k, q, z, _ => by simp [width]
 | s :: pre, r, k, q, z, h => by
  simp only [List.all_cons, Bool.and_eq_true] at h
  have h1 : 1 ≤ s.n := Nat.le_of_ble_eq_true h.1
  have ih := spl_pre pre r k q z h.2
  obtain ⟨j, hj⟩ : ∃ j, width (s :: pre) + k = j + 1 := ⟨width (s :: pre) + k - 1, by simp only [width]; omega⟩
  have hb : Nat.ble s.n (j + 1) = true := Nat.ble_eq_true_of_le (by rw [← hj]; simp only [width]; omega)
  have hj2 : j + 1 - s.n = width pre + k := by rw [← hj]; simp only [width]; omega
  rw [hj, List.cons_append]
  conv => lhs; unfold spl
  rw [hb, hj2, ih]
  simp only [cond_true]
  cases spl r k q z <;> rfl

theorem Mem.own {w : World} (h : Mem W w0 m w) : Mem (blocksOf m) w m w := ⟨h.holds, fun r hr k hk => .inr ⟨r, hr, hk⟩, h.apart⟩

end
end Go.SL
namespace Go.SL
open Go.RowKit

section
variable {P : Program} {n : Nat} {W : Nat → Prop} {w0 : World} {l : List (Nat × Value)} {m : List Res} {ops : Array Oper} {Q : Exit → Act → World → Prop} {rest : List Oper} {o : Oper}

instance {n : Nat} : DecidableEq (B n) := fun a b => if h : a.l = b.l then isTrue (B.ext h) else isFalse fun e => h (by rw [e])

theorem flat_seg {n : Nat} (b : B n) : flat [b.seg] = (b.l.map Extern.Stop.cell).toArray := by
 simp [flat, B.seg, Seg.cs, byteA]
 intro a _
 rfl

theorem run_eqlB {t e : TypeId} {k : Nat} (ht : P.underlying t = some (.array k e)) (he : P.underlying e = some (.int .u8)) (hsz : csz P e = some 1) (a b : B k) (w : World) :
  (binOp .eql t (.agg (flat [a.seg])) (.agg (flat [b.seg]))).run P w = .ok (.bool (decide (a = b))) w := by
 rw [flat_seg, flat_seg, run_eql_bytes w t e k ht he (fun w => run_sizeOf hsz w) a.l b.l a.h b.h]
 congr 2
 rw [Bool.eq_iff_iff]
 simp
 exact ⟨fun h => B.ext h, fun h => by rw [h]⟩

theorem run_neqlB {t e : TypeId} {k : Nat} (ht : P.underlying t = some (.array k e)) (he : P.underlying e = some (.int .u8)) (hsz : csz P e = some 1) (a b : B k) (w : World) :
  (binOp .neq t (.agg (flat [a.seg])) (.agg (flat [b.seg]))).run P w = .ok (.bool (!decide (a = b))) w := by
 have h := run_eqlB ht he hsz a b w
 rw [run_eql_struct] at h
 simp only [binOp]
 have h2 : (Op.equal t (.agg (flat [a.seg])) (.agg (flat [b.seg]))).run P w = .ok (decide (a = b)) w := by
  have : Op.equal t (.agg (flat [a.seg])) (.agg (flat [b.seg])) = Op.equalIn 10000 t (.agg (flat [a.seg])) (.agg (flat [b.seg])) := rfl
  rw [this]
  generalize (Op.equalIn 10000 t (.agg (flat [a.seg])) (.agg (flat [b.seg]))).run P w = r at h
  cases r with
  | ok x w' => simp only [Result.andThen_ok, Result.ok.injEq, Value.bool.injEq] at h; rw [h.1, h.2]
  | halt x w' => simp at h
 simp [h2]

theorem Pure.eqB {x y : Operand} {t t' e : TypeId} {k : Nat} {a b : B k} (ho : o.op = .binOp .eql t x y t') (hx : ev l x = some (.agg (flat [a.seg]))) (hy : ev l y = some (.agg (flat [b.seg]))) (ht : P.underlying t = some (.array k e)) (he : P.underlying e = some (.int .u8)) (hsz : csz P e = some 1) (hm : P.eqGuardType P.depth t = false) :
  Pure P n W w0 l m o (.bool (decide (a = b))) :=
 fun c w st => by simp [execOp, ho, st.has.ev hx, st.has.ev hy, run_eqGuard_agg w .eql t _ _ _ _ hm, run_eqlB ht he hsz]
theorem Pure.neB {x y : Operand} {t t' e : TypeId} {k : Nat} {a b : B k} (ho : o.op = .binOp .neq t x y t') (hx : ev l x = some (.agg (flat [a.seg]))) (hy : ev l y = some (.agg (flat [b.seg]))) (ht : P.underlying t = some (.array k e)) (he : P.underlying e = some (.int .u8)) (hsz : csz P e = some 1) (hm : P.eqGuardType P.depth t = false) :
  Pure P n W w0 l m o (.bool (!decide (a = b))) :=
 fun c w st => by simp [execOp, ho, st.has.ev hx, st.has.ev hy, run_eqGuard_agg w .neq t _ _ _ _ hm, run_neqlB ht he hsz]

/-- two aggregates, by what their comparison comes to -/
theorem Pure.eqAgg {x y : Operand} {t t' : TypeId} {xs ys : Array Value} {r : Bool} (ho : o.op = .binOp .eql t x y t') (hx : ev l x = some (.agg xs)) (hy : ev l y = some (.agg ys)) (hm : P.eqGuardType P.depth t = false) (hr : ∀ w, (Op.equalIn 10000 t (.agg xs) (.agg ys)).run P w = .ok r w) :
  Pure P n W w0 l m o (.bool r) :=
 fun c w st => by simp [execOp, ho, st.has.ev hx, st.has.ev hy, run_eqGuard_agg w .eql t _ _ _ _ hm, run_eql_struct, hr]

/-- function values against nil -/
theorem run_equalIn_fn_nil {t : TypeId} {ps rs : Array TypeId} {vr : Bool} (ht : P.underlying t = some (.func ps rs vr)) (d : Nat) (fn : Fn) (a b : Array Value) (w : World) : (Op.equalIn (d + 1) t (.func fn a b) .nilFunc).run P w = .ok false w := by
 simp [Op.equalIn, run_underlying ht]
theorem run_equalIn_nil_nil {t : TypeId} {ps rs : Array TypeId} {vr : Bool} (ht : P.underlying t = some (.func ps rs vr)) (d : Nat) (w : World) : (Op.equalIn (d + 1) t .nilFunc .nilFunc).run P w = .ok true w := by
 simp [Op.equalIn, run_underlying ht]

theorem Pure.eqFnF {x y : Operand} {t t' : TypeId} {ps rs : Array TypeId} {vr : Bool} {fn : Fn} {a b : Array Value} (ho : o.op = .binOp .eql t x y t') (hx : ev l x = some (.func fn a b)) (hy : ev l y = some .nilFunc) (ht : P.underlying t = some (.func ps rs vr)) : Pure P n W w0 l m o (.bool false) :=
 fun c w st => by
  have h1 : (Op.equal t (.func fn a b) .nilFunc).run P w = .ok false w := run_equalIn_fn_nil ht 9999 fn a b w
  have h2 : (binOp .eql t (.func fn a b) .nilFunc).run P w = .ok (.bool false) w := by simp only [binOp]; simp [h1]
  simp [execOp, ho, st.has.ev hx, st.has.ev hy, eqGuard, h2]
theorem Pure.eqFnT {x y : Operand} {t t' : TypeId} {ps rs : Array TypeId} {vr : Bool} (ho : o.op = .binOp .eql t x y t') (hx : ev l x = some .nilFunc) (hy : ev l y = some .nilFunc) (ht : P.underlying t = some (.func ps rs vr)) : Pure P n W w0 l m o (.bool true) :=
 fun c w st => by
  have h1 : (Op.equal t .nilFunc .nilFunc).run P w = .ok true w := run_equalIn_nil_nil ht 9999 w
  have h2 : (binOp .eql t .nilFunc .nilFunc).run P w = .ok (.bool true) w := by simp only [binOp]; simp [h1]
  simp [execOp, ho, st.has.ev hx, st.has.ev hy, eqGuard, h2]

/-- the address of an array's element -/
theorem Pure.indexAddrA {x y : Operand} {t e : TypeId} {b off k sz off' : Nat} {i : Int} {ki : IntKind} (ho : o.op = .indexAddr t x y) (hx : ev l x = some (.pointer (some ⟨b, off, none⟩))) (hy : ev l y = some (.int ki i)) (ht : P.underlying t = some (.array k e)) (hsz : csz P e = some sz) (h0 : 0 ≤ i) (h1 : i < k) (hoff : off + i.toNat * sz = off') :
  Pure P n W w0 l m o (.pointer (some ⟨b, off', none⟩)) :=
 fun c w st => by subst hoff; simp [execOp, ho, st.has.ev hx, st.has.ev hy, Instr.indexAt, asIntOf, run_underlying ht, Instr.sureAddr, h0, h1, run_sizeOf hsz, Addr.add_mid]

/-- the address of a slice's element -/
theorem Pure.indexAddrS {x y : Operand} {t e : TypeId} {b off k cp sz off' : Nat} {i : Int} {ki : IntKind} (ho : o.op = .indexAddr t x y) (hx : ev l x = some (.slice (some ⟨b, off, none⟩) k cp)) (hy : ev l y = some (.int ki i)) (ht : P.underlying t = some (.slice e)) (hsz : csz P e = some sz) (h0 : 0 ≤ i) (h1 : i < k) (hoff : off + i.toNat * sz = off') :
  Pure P n W w0 l m o (.pointer (some ⟨b, off', none⟩)) :=
 fun c w st => by subst hoff; simp [execOp, ho, st.has.ev hx, st.has.ev hy, Instr.indexAt, asIntOf, run_underlying ht, h0, h1, run_sizeOf hsz, Addr.add_mid]

/-- a call of a function value -/
theorem Eff.callFn {f : FuncId} {xs : List Operand} {vs first cap : List Value} {ts : Array TypeId} {x : Operand} {X : Type} {φ : X → Prop} {val : X → Value} {mem : X → List Res} (is js : List Nat)
  (ho : o.op = .call { callee := .value x, args := xs.toArray, argTypes := ts }) (hx : ev l x = some (.func (.func f) first.toArray cap.toArray)) (hf : entersB P f = true) (hv : evs l xs = some vs) (hd : dstOk n o.dst = true) (hdj : disj is js = true) (hjs : nod js = true)
  (hc : ∀ w, Mem W w0 m w → Keeps W w0 w → Calls P f (first ++ vs ++ cap).toArray w (fun e w' => ∃ x, φ x ∧ e = .returned (val x) ∧ Post w (blocksOf (selM m is)) (mem x) w')) :
  Eff P n W w0 l m o Q X φ (fun x => putD o.dst (val x) l) (fun x => mem x ++ selM m js) :=
 Eff.callE is js (fun _ _ st => run_callFn ho hx hf hv st) hd hdj hjs hc

/-- the nil row is always ours -/
theorem Mem.nilRow {w : World} (h : Mem W w0 m w) (e : TypeId) (sz : Nat) : Mem W w0 (.row (.slice none 0 0) e sz 0 [] :: m) w :=
 ⟨fun r hr => by
  rcases List.mem_cons.1 hr with rfl | hr
  ·
   exact World.ownsRowF_nil _ _ _ _
  ·
   exact h.holds r hr, fun r hr k hk => by
  rcases List.mem_cons.1 hr with rfl | hr
  ·
   simp [Res.block, Value.ownBlock] at hk
  ·
   exact h.may r hr k hk, .cons (fun s _ k hk => by simp [Res.block, Value.ownBlock] at hk) h.apart⟩

theorem Ok.nilRow {K : Act → World → Prop} (e : TypeId) (sz : Nat) (h : Ok n W w0 l (.row (.slice none 0 0) e sz 0 [] :: m) K) : Ok n W w0 l m K := fun a w st => h a w ⟨st.has, st.mem.nilRow e sz, st.keeps⟩

theorem Pure.nilCheckFn {x : Operand} {f : FuncId} {a b : Array Value} (ho : o.op = .nilCheck x) (hx : ev l x = some (.func (.func f) a b)) : Pure P n W w0 l m o (.func (.func f) a b) :=
 fun c w st => by simp [execOp, ho, st.has.ev hx]

/-- loads from a block that was there when the call began, and that stays -/
theorem Pure.loadO1 {t : TypeId} {x : Operand} {b off : Nat} {v : Value} {ss : List Seg} {T : TypeId} {fz : Nat × Nat} (hb : w0.heap[b]? = some (.cells (flat ss) T fz)) (hW : ¬ W b) (ho : o.op = .load t x) (hx : ev l x = some (.pointer (some ⟨b, off, none⟩)))
  (hv : at1 ss off = some v) (ht : aggB P t = some false) : Pure P n W w0 l m o v :=
 Pure.loadC ho hx ht fun w _ hK => by
  have hlt : b < w0.heap.size := (Array.getElem?_eq_some_iff.1 hb).1
  rw [World.cell?_of_block (w := w0) (hK.block b hlt hW), Lib.cell_of_heap hb, ← at1_eq]; exact hv

theorem Pure.loadOA {t : TypeId} {x : Operand} {b off k : Nat} {ss q : List Seg} {T : TypeId} {fz : Nat × Nat} (hb : w0.heap[b]? = some (.cells (flat ss) T fz)) (hW : ¬ W b) (ho : o.op = .load t x) (hx : ev l x = some (.pointer (some ⟨b, off, none⟩)))
  (hk : csz P t = some k) (hv : cut ss off k = some q) (ht : aggB P t = some true) : Pure P n W w0 l m o (.agg (flat q)) := by
 obtain ⟨h1, h2, h3⟩ := cut_spec ss off k q hv
 have hlt : b < w0.heap.size := (Array.getElem?_eq_some_iff.1 hb).1
 refine Pure.loadR ho hx ht (by rw [flat_size, h2]; exact hk) fun w _ hK j v hj => ?_
 rw [World.cell?_of_block (w := w0) (hK.block b hlt hW), Lib.cell_of_heap hb]
 rw [← h1] at hj
 rw [Array.toList_extract, List.extract_eq_take_drop] at hj
 rw [List.getElem?_take] at hj
 split at hj
 ·
  rw [List.getElem?_drop] at hj
  simpa using hj
 ·
  exact absurd hj (by simp)

theorem run_equalIn_bool {t : TypeId} (ht : P.underlying t = some .bool) (d : Nat) (a b : Bool) (w : World) : (Op.equalIn (d + 1) t (.bool a) (.bool b)).run P w = .ok (a == b) w := by
 simp [Op.equalIn, run_underlying ht]
theorem Pure.eqBool {x y : Operand} {t t' : TypeId} {a b : Bool} (ho : o.op = .binOp .eql t x y t') (hx : ev l x = some (.bool a)) (hy : ev l y = some (.bool b)) (ht : P.underlying t = some .bool) : Pure P n W w0 l m o (.bool (a == b)) :=
 fun c w st => by
  have h1 : (Op.equal t (.bool a) (.bool b)).run P w = .ok (a == b) w := run_equalIn_bool ht 9999 a b w
  have h2 : (binOp .eql t (.bool a) (.bool b)).run P w = .ok (.bool (a == b)) w := by simp only [binOp]; simp [h1]
  simp [execOp, ho, st.has.ev hx, st.has.ev hy, eqGuard, h2]
theorem Pure.neBool {x y : Operand} {t t' : TypeId} {a b : Bool} (ho : o.op = .binOp .neq t x y t') (hx : ev l x = some (.bool a)) (hy : ev l y = some (.bool b)) (ht : P.underlying t = some .bool) : Pure P n W w0 l m o (.bool (!(a == b))) :=
 fun c w st => by
  have h1 : (Op.equal t (.bool a) (.bool b)).run P w = .ok (a == b) w := run_equalIn_bool ht 9999 a b w
  have h2 : (binOp .neq t (.bool a) (.bool b)).run P w = .ok (.bool (!(a == b))) w := by simp only [binOp]; simp [h1]
  simp [execOp, ho, st.has.ev hx, st.has.ev hy, eqGuard, h2]

/-- a whole old block, read-only -/
theorem Keeps.old {S : Nat → Prop} {w w' : World} (hK : Keeps S w w') {b : Nat} {ob : Obj} (hb : w.heap[b]? = some ob) (hS : ¬ S b) : w'.heap[b]? = some ob := by
 rw [hK.block b (Array.getElem?_eq_some_iff.1 hb).1 hS]; exact hb

/-! ### exits through what stands around -/
theorem retHere {X : Act → World → Prop} : ∀ a w, X a w → X a w := fun _ _ h => h
theorem retThen {X K : Act → World → Prop} (h : ∀ a w, X a w → Q .ret a w) : ∀ a w, X a w → Exit.then K Q .ret a w := h
theorem retBlock {X : Act → World → Prop} {id : Nat} (h : ∀ a w, X a w → Q .ret a w) : ∀ a w, X a w → Exit.inBlock id Q .ret a w := h
theorem retScope {X : Act → World → Prop} (h : ∀ a w, X a w → Q .ret a w) : ∀ a w, X a w → Exit.noGoto Q .ret a w := h
theorem Ok.normBlock {id : Nat} (h : Ok n W w0 l m (Q .normal)) : Ok n W w0 l m (Exit.inBlock id Q .normal) := h
theorem Ok.normScope (h : Ok n W w0 l m (Q .normal)) : Ok n W w0 l m (Exit.noGoto Q .normal) := h
theorem Ok.normThen {K : Act → World → Prop} (h : Ok n W w0 l m K) : Ok n W w0 l m (Exit.then K Q .normal) := h
theorem Ok.exThen {id : Nat} {K : Act → World → Prop} (h : Ok n W w0 l m (Q (.exit id))) : Ok n W w0 l m (Exit.then K Q (.exit id)) := h
theorem Ok.exScope {id : Nat} (h : Ok n W w0 l m (Q (.exit id))) : Ok n W w0 l m (Exit.noGoto Q (.exit id)) := h
theorem Ok.exHere {id : Nat} (h : Ok n W w0 l m (Q .normal)) : Ok n W w0 l m (Exit.inBlock id Q (.exit id)) := by
 intro a w st
 show (if id = id then Q .normal a w else _)
 rw [if_pos rfl]
 exact h a w st
theorem Ok.exOther {id id' : Nat} (hne : Nat.beq id id' = false) (h : Ok n W w0 l m (Q (.exit id))) : Ok n W w0 l m (Exit.inBlock id' Q (.exit id)) := by
 intro a w st
 show (if id = id' then _ else Q (.exit id) a w)
 rw [if_neg (fun e => by subst e; simp at hne)]
 exact h a w st


/-- what was ours at the beginning is ours at the end of a call that keeps all -/
theorem Mem.same {S : Nat → Prop} {ms : List Res} {w w' : World} (h : Mem S w ms w) (hk : Keeps none1 w w') : Mem S w ms w' := h.keep hk

end
end Go.SL
namespace Go.SL
open Go.RowKit

section
variable {H : Type} {enc : TypeId × Value → H} {P : Program} {w : World} {base : Nat} {spare : Nat → Bool} {held : Bool}

/-- the cells of an element that lies at an address -/
def ElemAt (w : World) (a : Addr) (es : List Seg) : Prop := a.block < w.heap.size ∧ ∀ j v, (flat es)[j]? = some v → w.cell? (a.add j) = some v

def RdL (R : TypeId → List Seg → Prop) : List Field → List Seg → Prop
 | [], ss => ss = []
 | f :: r, ss => ∃ p q, ss = p ++ q ∧ R f.type p ∧ RdL R r q

/-- segments that are a value of a type, as far as it is read -/
def Rd (P : Program) (w : World) : Nat → TypeId → List Seg → Prop
 | 0, _, _ => False
 | g + 1, t, ss => match P.underlying t with
  | some .bool => ∃ b : Bool, ss = [.one (.bool b) rfl]
  | some (.int k) => ∃ n : Int, ss = [.one (.int k n) rfl] ∧ (Lit.int k n).wf = true
  | some .string => ∃ l : List UInt8, ss = [.one (str l) rfl] ∧ l.length ≤ 140737488351232
  | some (.slice e) => ∃ (a : Option Addr) (len cap : Nat), ss = [.one (.slice a len cap) rfl] ∧ ((a = none ∧ len = 0 ∧ cap = 0) ∨ ∃ ad, a = some ad ∧ len ≤ cap ∧ cap ≤ maxLen ∧ len * P.bytesOf e ≤ 140737488351232 ∧ ∃ E : Nat → List Seg, ∀ i, i < len → ElemAt w (ad.add (i * P.cellsOf e)) (E i) ∧ Rd P w g e (E i))
  | some (.struct fs) => RdL (Rd P w g) fs.toList ss
  | some (.array n _) => ∃ b : B n, ss = [b.seg]
  | _ => False

def conB (P : Program) : List Field → Nat → Nat → Bool
 | [], s, tot => s == tot
 | f :: r, s, tot => f.offset == s && conB P r (s + P.cellsOf f.type) tot

def goodB (P : Program) : Nat → TypeId → Bool
 | 0, _ => false
 | g + 1, t => match P.underlying t with
  | some .bool => true
  | some (.int _) => true
  | some .string => true
  | some (.slice e) => goodB P g e && !(P.cellsOf e == 0)
  | some (.struct fs) => conB P fs.toList 0 (P.cellsOf t) && fs.toList.all fun f => goodB P g f.type
  | some (.array n e) => (match P.underlying e with | some (.int .u8) => true | _ => false) && (P.cellsOf e == 1) && (P.cellsOf t == n)
  | _ => false

theorem cells?_spec {a : Addr} {k : Nat} {cs : List Value} (h : w.cells? base a k = some cs) : cs.length = k ∧ ∀ j v, cs[j]? = some v → w.cell? (a.add j) = some v := by
  unfold World.cells? at h
  split at h
  · have hl : ∀ (l : List Nat) (cs : List Value), l.mapM (fun i => w.cell? (a.add i)) = some cs → cs.length = l.length ∧ ∀ (j : Nat) (v : Value), cs[j]? = some v → ∃ i : Nat, l[j]? = some i ∧ w.cell? (a.add i) = some v := by
      intro l
      induction l with
      | nil => intro cs hc; simp at hc; subst hc; simp
      | cons x l ih =>
        intro cs hc
        simp only [List.mapM_cons, Option.bind_eq_bind, Option.pure_def] at hc
        cases h1 : w.cell? (a.add x) with
        | none => simp [h1] at hc
        | some v =>
          cases h2 : l.mapM (fun i => w.cell? (a.add i)) with
          | none => simp [h1, h2] at hc
          | some vs =>
            simp [h1, h2] at hc
            subst hc
            obtain ⟨h3, h4⟩ := ih vs h2
            refine ⟨by simp [h3], fun j u hj => ?_⟩
            cases j with
            | zero => simp at hj; subst hj; exact ⟨x, by simp, h1⟩
            | succ j => simp at hj; obtain ⟨i, hi, hc⟩ := h4 j u hj; exact ⟨i, by simpa using hi, hc⟩
    obtain ⟨h1, h2⟩ := hl _ _ h
    refine ⟨by simpa using h1, fun j v hj => ?_⟩
    obtain ⟨i, hi, hc⟩ := h2 j v hj
    have hj' := (List.getElem?_eq_some_iff.1 hi)
    obtain ⟨h3, h4⟩ := hj'
    simp at h4
    subst h4
    exact hc
  · cases h


theorem bytes_of_cells {n : Nat} {cs : List Value} (hl : cs.length = n) (h : ∀ i, i < n → ∃ m : Int, (cs.drop i).take 1 = [.int .u8 m] ∧ (Lit.int .u8 m).wf = true) : ∃ b : B n, cs = (flat [b.seg]).toList := by
 have h' : ∃ l : List UInt8, cs = l.map fun x => Value.int .u8 x.toNat := by
  refine ⟨cs.map fun v => match v with | .int _ m => UInt8.ofNat m.toNat | _ => 0, ?_⟩
  apply List.ext_getElem?
  intro i
  rw [List.getElem?_map, List.getElem?_map]
  by_cases hi : i < n
  ·
   obtain ⟨m, hm, hw⟩ := h i hi
   have hc : cs[i]? = some (.int .u8 m) := by
    have := congrArg (fun l => l[0]?) hm
    simpa [List.getElem?_take, List.getElem?_drop] using this
   have hb : 0 ≤ m ∧ m < 256 := by
    have := bounds_u8 hw
    omega
   rw [hc]
   simp only [Option.map_some]
   congr 2
   have : (UInt8.ofNat m.toNat).toNat = m.toNat := by
    rw [UInt8.toNat_ofNat']
    omega
   rw [this]
   omega
  ·
   rw [List.getElem?_eq_none (by omega)]
   rfl
 obtain ⟨l, hl'⟩ := h'
 exact ⟨⟨l, by rw [hl'] at hl; simpa using hl⟩, by simp [flat, B.seg, Seg.cs, byteA, hl']⟩

theorem weightsAll_mem {P : Program} {e : TypeId} : ∀ {ds : List (DataW H)} {i : Nat} {d : DataW H}, ds[i]? = some d → ∀ n ∈ d.weights P e, n ∈ DataW.weightsAll P e ds
 | d0 :: ds, 0, d, h, n, hn => by
  simp at h; subst h
  simp only [DataW.weightsAll, List.mem_append]; exact .inl hn
 | d0 :: ds, i + 1, d, h, n, hn => by
  simp only [DataW.weightsAll, List.mem_append]; exact .inr (weightsAll_mem (by simpa using h) n hn)
 | [], _, _, h, _, _ => by simp at h

theorem trod_rd : ∀ (g fuel : Nat) (t : TypeId) (cs : List Value) (x : DataW H × List MemPlace), goodB P g t = true → (∀ k ∈ DataW.weights P t x.1, k ≤ reachBytes) → DataW.trod enc P w base spare held fuel t cs = some x → ∃ ss, cs = (flat ss).toList ∧ Rd P w g t ss
  | 0, fuel, t, cs, x, hg, hwt, h => by simp [goodB] at hg
  | g + 1, fuel, t, cs, x, hg, hwt, h => by
    unfold goodB at hg
    unfold Rd
    cases hu : P.underlying t with
    | none => simp [hu] at hg
    | some ty =>
      cases ty <;> simp only [hu] at hg <;> try (simp at hg; done)
      case bool =>
        obtain ⟨b, rfl, _⟩ := DataW.trod_bool hu h
        exact ⟨_, rfl, b, rfl⟩
      case int k =>
        obtain ⟨n, rfl, _, hw⟩ := DataW.trod_int hu h
        exact ⟨_, rfl, n, rfl, hw⟩
      case string =>
        obtain ⟨s, rfl, rfl, hs⟩ := DataW.trod_string hu h
        refine ⟨[.one (str s.data.toList) rfl], ?_, s.data.toList, rfl, hwt _ (by simp [DataW.weights])⟩
        simp [flat, Seg.cs, str]
      case slice e =>
        simp only [Bool.and_eq_true, Bool.not_eq_true', beq_eq_false_iff_ne] at hg
        rcases DataW.trod_slice hu h with ⟨rfl, _⟩ | ⟨a, len, cap, elems, rest, n, _, rfl, rfl, _, hlc, hcm, hel, hel2, _⟩
        · exact ⟨[.one (.slice none 0 0) rfl], rfl, none, 0, 0, rfl, .inl ⟨rfl, rfl, rfl⟩⟩
        · have hbytes : len * P.bytesOf e ≤ 140737488351232 := by
            have h1 := hwt (((elems.map (·.1)).length + (rest.map (·.1)).length) * P.bytesOf e) (by simp [DataW.weights, hu])
            simp only [List.length_map, hel] at h1
            exact Nat.le_trans (Nat.mul_le_mul_right _ (Nat.le_add_right _ _)) h1
          refine ⟨[.one (.slice (some a) len cap) rfl], rfl, some a, len, cap, rfl, .inr ⟨a, rfl, hlc, hcm, hbytes, ?_⟩⟩
          have key : ∀ i, i < len → ∃ es, ElemAt w (a.add (i * P.cellsOf e)) es ∧ Rd P w g e es := by
            intro i hi
            have h1 := hel2 i hi
            have h2 : elems[i]? = some elems[i] := List.getElem?_eq_getElem (by omega)
            rw [h2] at h1
            cases hc : w.cells? base (a.add (i * P.cellsOf e)) (P.cellsOf e) with
            | none => simp [hc] at h1
            | some cs' =>
              simp only [hc, Option.bind_some] at h1
              obtain ⟨hl, hcell⟩ := cells?_spec hc
              obtain ⟨es, hes, hrd⟩ := trod_rd g n e cs' _ hg.1 (fun k hk => hwt k (by
                simp only [DataW.weights, hu, List.mem_cons, List.mem_append]
                exact .inr (.inl (weightsAll_mem (i := i) (by rw [List.getElem?_map, h2]; rfl) k hk)))) h1
              refine ⟨es, ⟨?_, fun j v hj => hcell j v (by rw [hes]; simpa using hj)⟩, hrd⟩
              have hpos : 0 < cs'.length := by rw [hl]; omega
              have h0 := hcell 0 cs'[0] (List.getElem?_eq_getElem hpos)
              simp only [Addr.add, if_true] at h0
              unfold World.cell? at h0
              split at h0
              · rename_i c _ _ hb
                have := (Array.getElem?_eq_some_iff.1 hb).1
                exact this
              · cases h0
          classical
          exact ⟨fun i => if hi : i < len then (key i hi).choose else [], fun i hi => by simp only [dif_pos hi]; exact (key i hi).choose_spec⟩
      case array n e =>
        simp only [Bool.and_eq_true, beq_iff_eq] at hg
        obtain ⟨xs, m, _, _, hl, hxl, hx⟩ := DataW.trod_array hu h
        obtain ⟨b, hb⟩ := bytes_of_cells (n := n) (by rw [hl]; exact hg.2) (fun i hi => by
          have h1 := hx i hi
          rw [hg.1.2, Nat.mul_one] at h1
          have h2 : xs[i]? = some xs[i] := List.getElem?_eq_getElem (by omega)
          rw [h2] at h1
          have hu8 : P.underlying e = some (.int .u8) := by
            have := hg.1.1
            split at this
            · assumption
            · cases this
          obtain ⟨k, hk, _, hw⟩ := DataW.trod_int hu8 h1
          exact ⟨k, hk, hw⟩)
        exact ⟨[b.seg], hb, b, rfl⟩
      case struct fs =>
        simp only [Bool.and_eq_true] at hg
        obtain ⟨xs, m, _, rfl, hl, hxl, hx⟩ := DataW.trod_struct hu h
        have key : ∀ (l : List Field) (s : Nat), conB P l s (P.cellsOf t) = true → (∀ f ∈ l, goodB P g f.type = true) → (∀ f ∈ l, ∃ x, DataW.trod enc P w base spare held m f.type ((cs.drop f.offset).take (P.cellsOf f.type)) = some x ∧ ∀ k ∈ DataW.weights P f.type x.1, k ≤ reachBytes) →
            ∃ ss, cs.drop s = (flat ss).toList ∧ RdL (Rd P w g) l ss := by
          intro l
          induction l with
          | nil =>
            intro s hc _ _
            simp only [conB, beq_iff_eq] at hc
            exact ⟨[], by simp [flat, List.drop_eq_nil_iff]; omega, rfl⟩
          | cons f l ih =>
            intro s hc hgl hxl
            simp only [conB, Bool.and_eq_true, beq_iff_eq] at hc
            obtain ⟨x, hxf, hxw⟩ := hxl f (by simp)
            obtain ⟨p, hp, hrp⟩ := trod_rd g m f.type _ _ (hgl f (by simp)) hxw hxf
            obtain ⟨q, hq, hrq⟩ := ih (s + P.cellsOf f.type) hc.2 (fun f' hf' => hgl f' (by simp [hf'])) (fun f' hf' => hxl f' (by simp [hf']))
            refine ⟨p ++ q, ?_, p, q, rfl, hrp, hrq⟩
            rw [flat_append, Array.toList_append, ← hp, ← hq, hc.1, ← List.drop_drop, List.take_append_drop]
        obtain ⟨ss, hss, hr⟩ := key fs.toList 0 hg.1 (fun f hf => List.all_eq_true.1 hg.2 f hf) (fun f hf => by
          obtain ⟨i, hi, rfl⟩ := List.mem_iff_getElem.1 hf
          have hi' : i < fs.size := by simpa using hi
          have h1 := hx i fs[i] (Array.getElem?_eq_getElem hi')
          have h2 : xs[i]? = some xs[i] := List.getElem?_eq_getElem (by omega)
          refine ⟨xs[i], by rw [← h2, ← h1]; simp, fun k hk => hwt k ?_⟩
          simp only [DataW.weights, hu]
          exact DataW.weights_mem_each (j := i) (t := (fs.toList[i]).type) (d := xs[i].1) (by rw [List.getElem?_map, List.getElem?_eq_getElem hi]; rfl) (by rw [List.getElem?_map, h2]; rfl) k hk)
        exact ⟨ss, by simpa using hss, hr⟩
end
end Go.SL
namespace Go.SL
open Go.RowKit

section
variable {P : Program} {n : Nat} {W : Nat → Prop} {w0 : World} {l : List (Nat × Value)} {m : List Res} {ops : Array Oper} {Q : Exit → Act → World → Prop} {rest : List Oper} {o : Oper}

/-- a slice that came in: nil or empty, or elements in old memory -/
def SlRd (P : Program) (w : World) (g : Nat) (e : TypeId) (sz : Nat) (a : Option Addr) (len : Nat) : Prop :=
 len = 0 ∨ ∃ b off, a = some ⟨b, off, none⟩ ∧ b < w.heap.size ∧ ∃ E : Nat → List Seg, ∀ i, i < len → w.rangeAt b (off + i * sz) (flat (E i)).toList ∧ Rd P w g e (E i)



theorem slRd_of {g : Nat} {e : TypeId} {w : World} {a : Option Addr} {len cap : Nat} (sz : Nat) (hsz : P.cellsOf e = sz) (hpos : 0 < sz) (hw : ∀ es, Rd P w g e es → width es = sz)
  (h : (a = none ∧ len = 0 ∧ cap = 0) ∨ ∃ ad, a = some ad ∧ len ≤ cap ∧ cap ≤ maxLen ∧ len * P.bytesOf e ≤ 140737488351232 ∧ ∃ E : Nat → List Seg, ∀ i, i < len → ElemAt w (ad.add (i * P.cellsOf e)) (E i) ∧ Rd P w g e (E i)) : SlRd P w g e sz a len := by
 rcases h with ⟨_, rfl, _⟩ | ⟨ad, rfl, _, _, _, E, hE⟩
 ·
  exact .inl rfl
 ·
  by_cases h0 : len = 0
  ·
   exact .inl h0
  ·
   right
   obtain ⟨b, off, sp⟩ := ad
   subst hsz
   have h1 := hE 0 (by omega)
   have hne : 0 < (flat (E 0)).size := by rw [flat_size, hw _ h1.2]; exact hpos
   have hc := h1.1.2 0 (flat (E 0))[0] (Array.getElem?_eq_getElem hne)
   simp only [Nat.zero_mul, Addr.add, if_true] at hc
   have hsp : sp = none := by simpa using World.cell?_spot hc
   subst hsp
   refine ⟨b, off, rfl, by simpa [Addr.add] using h1.1.1, E, fun i hi => ⟨fun j v hj => ?_, (hE i hi).2⟩⟩
   have := (hE i hi).1.2 j v (by simpa using hj)
   rw [Addr.add_mid, Addr.add_mid] at this
   exact this

/-- a load of an element of a slice that came in -/
theorem Pure.loadOR {t : TypeId} {x : Operand} {b off k : Nat} {q : List Seg} (hr : w0.rangeAt b off (flat q).toList) (hlt : b < w0.heap.size) (hW : ¬ W b) (ho : o.op = .load t x) (hx : ev l x = some (.pointer (some ⟨b, off, none⟩)))
  (hk : csz P t = some k) (hq : width q = k) (ht : aggB P t = some true) : Pure P n W w0 l m o (.agg (flat q)) :=
 Pure.loadR ho hx ht (by rw [flat_size, hq]; exact hk) fun w _ hK j v hj => by
  rw [World.cell?_of_block (w := w0) (hK.block b hlt hW)]; exact hr j v hj


section arg
variable {H : Type} {enc : TypeId × Value → H} {w : World} {base : Nat} {spare : Nat → Bool} {held : Bool}
theorem arg_agg {r : Reach} {b0 : Nat} {g : Nat} {t : TypeId} {v : Value} {d : DataW H} {p : List MemPlace} (hu : aggB P t = some true) (hok : Value.okWide P w r b0 t v) (ht : DataW.Trod enc P w base spare held t v d p) (hg : goodB P g t = true) (hwt : ∀ k ∈ DataW.weights P t d, k ≤ reachBytes) : ∃ ss, v = .agg (flat ss) ∧ Rd P w g t ss := by
 obtain ⟨fuel, hf⟩ := ht
 obtain ⟨ss, hs, hr⟩ := trod_rd g fuel t _ _ hg hwt hf
 refine ⟨ss, ?_, hr⟩
 have : ∃ cs, v = .agg cs := by
  unfold Value.okWide at hok
  unfold aggB at hu
  cases hU : P.underlying t with
  | none => simp [hU] at hu
  | some ty => cases ty <;> simp only [hU] at hu hok <;> first | (obtain ⟨cs, rfl, _⟩ := hok; exact ⟨cs, rfl⟩) | (simp at hu)
 obtain ⟨cs, rfl⟩ := this
 simp only [Value.cells] at hs
 congr 1
 apply Array.ext'
 exact hs

end arg
end
end Go.SL
