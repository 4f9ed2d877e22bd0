/- A small logic for walks: states, and the rules of code. -/
import Derived.Test.YtehjohfpegbhmaaGreatDoorSl1
namespace Go.SL
open Go.RowKit

/-! ### The frame -/
structure Has (n : Nat) (l : List (Nat × Value)) (a : Act) : Prop where
  size : a.tmps.size = n
  defers : a.defers = []
  get : ∀ d v, look l d = some v → a.tmps[d]? = some v

theorem Has.tmp {n : Nat} {l : List (Nat × Value)} {a : Act} (h : Has n l a) {d : Nat} {v : Value} (hd : look l d = some v) : a.eval (.tmp d) = v := by
  simp [Act.eval, h.get d v hd]

theorem Has.ev {n : Nat} {l : List (Nat × Value)} {a : Act} (h : Has n l a) {x : Operand} {v : Value} (hx : ev l x = some v) : a.eval x = v := by
  cases x with
  | tmp t => exact h.tmp hx
  | const c => simpa [SL.ev, Act.eval] using hx
  | global g => simpa [SL.ev, Act.eval] using hx
  | func f => simpa [SL.ev, Act.eval] using hx

theorem Has.evs {n : Nat} {l : List (Nat × Value)} {a : Act} (h : Has n l a) : ∀ {xs : List Operand} {vs : List Value}, evs l xs = some vs → xs.map a.eval = vs
  | [], vs, e => by simp [SL.evs] at e; simp [← e]
  | x :: xs, vs, e => by
    unfold SL.evs at e
    cases h1 : SL.ev l x with
    | none => simp [h1] at e
    | some v =>
      cases h2 : SL.evs l xs with
      | none => simp [h1, h2] at e
      | some ws =>
        simp only [h1, h2, Option.some.injEq] at e
        subst e
        simp [h.ev h1, h.evs h2]

theorem Has.put {n : Nat} {l : List (Nat × Value)} {a : Act} (h : Has n l a) {d : Nat} (v : Value) (hd : Nat.ble (d + 1) n = true) : Has n ((d, v) :: l) (a.put (some d) v) := by
  have hd' : d < n := Nat.le_of_ble_eq_true hd
  refine ⟨by simp [Act.put, h.size], h.defers, fun e u hu => ?_⟩
  unfold look at hu
  cases hb : Nat.beq d e with
  | true =>
    have : d = e := Nat.eq_of_beq_eq_true hb
    subst this
    simp at hu
    subst hu
    simp [Act.put, h.size, hd']
  | false =>
    have hne : d ≠ e := fun he => by subst he; simp at hb
    simp only [hb, cond_false] at hu
    simp [Act.put, Array.getElem?_setIfInBounds_ne hne, h.get e u hu]

def subL (l : List (Nat × Value)) : List (Nat × Value) → Prop
  | [] => True
  | p :: r => look l p.1 = some p.2 ∧ subL l r

theorem Has.sub {n : Nat} {l l' : List (Nat × Value)} {a : Act} (h : Has n l a) (hs : subL l l') : Has n l' a := by
  refine ⟨h.size, h.defers, fun d v hv => ?_⟩
  induction l' with
  | nil => simp [look] at hv
  | cons p r ih =>
    unfold look at hv
    cases hb : Nat.beq p.1 d with
    | true =>
      have : p.1 = d := Nat.eq_of_beq_eq_true hb
      simp [hb] at hv
      subst hv this
      exact h.get _ _ hs.1
    | false =>
      simp only [hb, cond_false] at hv
      exact ih hs.2 hv

/-! ### Resources -/
inductive Res where
  | blk (b : Nat) (o : Obj)
  | row (v : Value) (e : TypeId) (sz n : Nat) (xs : List Value)

def Res.block : Res → Option Nat
  | .blk b _ => some b
  | .row v _ _ _ _ => v.ownBlock

def Res.holds (w : World) : Res → Prop
  | .blk b o => w.heap[b]? = some o
  | .row v e sz n xs => w.ownsRowF 0 e sz v n xs

/-- All old blocks but those in S are as they were. -/
structure Keeps (S : Nat → Prop) (w w' : World) : Prop where
  os : w'.os = w.os
  tape : w'.tape = w.tape
  output : w'.output = w.output
  size : w.heap.size ≤ w'.heap.size
  block : ∀ k, k < w.heap.size → ¬ S k → w'.heap[k]? = w.heap[k]?

def none1 : Nat → Prop := fun _ => False

theorem Keeps.refl (S : Nat → Prop) (w : World) : Keeps S w w := ⟨rfl, rfl, rfl, Nat.le_refl _, fun _ _ _ => rfl⟩
theorem Keeps.trans {S : Nat → Prop} {a b c : World} (h : Keeps S a b) (k : Keeps S b c) : Keeps S a c :=
  ⟨k.os.trans h.os, k.tape.trans h.tape, k.output.trans h.output, Nat.le_trans h.size k.size, fun i hi hn => (k.block i (Nat.lt_of_lt_of_le hi h.size) hn).trans (h.block i hi hn)⟩
theorem Keeps.mono {S S' : Nat → Prop} {w w' : World} (h : Keeps S w w') (hs : ∀ k, S k → S' k) : Keeps S' w w' :=
  ⟨h.os, h.tape, h.output, h.size, fun k hk hn => h.block k hk (fun hh => hn (hs k hh))⟩
theorem Keeps.drew (S : Nat → Prop) (w : World) : Keeps S w w.drew := ⟨rfl, rfl, rfl, Nat.le_refl _, fun _ _ _ => rfl⟩
theorem Keeps.of_below {w w' : World} (h : Below w.heap.size w w') : Keeps none1 w w' := ⟨h.os, h.tape, h.output, h.size, fun k hk _ => h.block k hk⟩
theorem Keeps.below {w w' : World} (h : Keeps none1 w w') : Below w.heap.size w w' := ⟨h.os, h.tape, h.output, h.size, fun k hk => h.block k hk (fun hh => hh)⟩
theorem Keeps.alloc (S : Nat → Prop) (w : World) (o : Obj) : Keeps S w (w.alloc o) :=
  ⟨rfl, rfl, rfl, by simp, fun k hk _ => Below.heap_alloc w o k hk⟩

theorem Res.block_lt {w : World} {r : Res} (h : r.holds w) {k : Nat} (hk : r.block = some k) : k < w.heap.size := by
  cases r with
  | blk b o =>
    simp only [Res.block, Option.some.injEq] at hk
    subst hk
    exact (Array.getElem?_eq_some_iff.1 h).1
  | row v e sz n xs => exact (World.ownsRowF.lt h k hk).2

theorem Res.keeps {S : Nat → Prop} {w w' : World} {r : Res} (h : r.holds w) (hk : Keeps S w w') (hn : ∀ k, r.block = some k → ¬ S k) : r.holds w' := by
  cases r with
  | blk b o =>
    have hb : b < w.heap.size := Res.block_lt (r := .blk b o) h rfl
    show w'.heap[b]? = some o
    rw [hk.block b hb (hn b rfl)]
    exact h
  | row v e sz n xs =>
    refine ⟨h.1, ?_⟩
    rcases h.2 with hh | ⟨g, cap, cur, fz, rfl, hb, hg, rest⟩
    · exact .inl hh
    · refine .inr ⟨g, cap, cur, fz, rfl, hb, ?_, rest⟩
      have hgs : g < w.heap.size := (Array.getElem?_eq_some_iff.1 hg).1
      rw [hk.block g hgs (hn g rfl)]
      exact hg

/-- The resources m, disjoint, each writable: new since w0, or in W. -/
structure Mem (W : Nat → Prop) (w0 : World) (m : List Res) (w : World) : Prop where
  holds : ∀ r ∈ m, r.holds w
  may : ∀ r ∈ m, ∀ k, r.block = some k → w0.heap.size ≤ k ∨ W k
  apart : m.Pairwise fun r s => ∀ k, r.block = some k → s.block ≠ some k

structure St (n : Nat) (W : Nat → Prop) (w0 : World) (l : List (Nat × Value)) (m : List Res) (a : Act) (w : World) : Prop where
  has : Has n l a
  mem : Mem W w0 m w
  keeps : Keeps W w0 w

def Ok (n : Nat) (W : Nat → Prop) (w0 : World) (l : List (Nat × Value)) (m : List Res) (K : Act → World → Prop) : Prop :=
  ∀ a w, St n W w0 l m a w → K a w

section
variable {P : Program} {n : Nat} {W : Nat → Prop} {w0 : World} {l : List (Nat × Value)} {m : List Res} {ops : Array Oper} {Q : Exit → Act → World → Prop} {rest : List Oper} {o : Oper}

theorem Mem.nil (W : Nat → Prop) (w0 w : World) : Mem W w0 [] w := ⟨by simp, by simp, .nil⟩

/-- a new resource in front, in a world that keeps all old blocks -/
theorem Mem.cons_new {r : Res} {w w' : World} (h : Mem W w0 m w) (hk : Keeps none1 w w') (h0 : w0.heap.size ≤ w.heap.size) (hr : r.holds w') (hb : ∀ k, r.block = some k → w.heap.size ≤ k) : Mem W w0 (r :: m) w' := by
  refine ⟨?_, ?_, ?_⟩
  · intro s hs
    rcases List.mem_cons.1 hs with rfl | hs
    · exact hr
    · exact Res.keeps (h.holds s hs) hk (fun _ _ hh => hh)
  · intro s hs k hk'
    rcases List.mem_cons.1 hs with rfl | hs
    · exact .inl (Nat.le_trans h0 (hb k hk'))
    · exact h.may s hs k hk'
  · refine List.Pairwise.cons (fun s hs k hk1 hk2 => ?_) h.apart
    have := Res.block_lt (h.holds s hs) hk2
    have := hb k hk1
    omega

theorem Mem.keep {w w' : World} (h : Mem W w0 m w) (hk : Keeps none1 w w') : Mem W w0 m w' :=
  ⟨fun s hs => Res.keeps (h.holds s hs) hk (fun _ _ hh => hh), h.may, h.apart⟩

theorem Keeps.weak {S : Nat → Prop} {w w' : World} (h : Keeps none1 w w') : Keeps S w w' := h.mono fun _ hh => hh.elim

theorem St.keep {a : Act} {w w' : World} (h : St n W w0 l m a w) (hk : Keeps none1 w w') : St n W w0 l m a w' :=
  ⟨h.has, h.mem.keep hk, h.keeps.trans hk.weak⟩

theorem St.put {a : Act} {w : World} (h : St n W w0 l m a w) {d : Nat} (v : Value) (hd : Nat.ble (d + 1) n = true) : St n W w0 ((d, v) :: l) m (a.put (some d) v) w :=
  ⟨h.has.put v hd, h.mem, h.keeps⟩

def selM (m : List Res) : List Nat → List Res
  | [] => []
  | i :: r => match nth m i with
    | some x => x :: selM m r
    | none => selM m r

/-- numbers without repetition -/
def nod : List Nat → Bool
  | [] => true
  | i :: r => !(r.any (Nat.beq i)) && nod r

theorem mem_selM : ∀ (is : List Nat) (r : Res), r ∈ selM m is → r ∈ m
  | [], r, h => by simp [selM] at h
  | i :: is, r, h => by
    unfold selM at h
    cases hn : nth m i with
    | none => simp only [hn] at h; exact mem_selM is r h
    | some x =>
      simp only [hn, List.mem_cons] at h
      rcases h with rfl | h
      · rw [nth_eq] at hn; exact List.mem_of_getElem? hn
      · exact mem_selM is r h

theorem mem_selM_idx : ∀ (is : List Nat) (r : Res), r ∈ selM m is → ∃ i ∈ is, nth m i = some r
  | [], r, h => by simp [selM] at h
  | i :: is, r, h => by
    unfold selM at h
    cases hn : nth m i with
    | none =>
      simp only [hn] at h
      obtain ⟨j, hj, hr⟩ := mem_selM_idx is r h
      exact ⟨j, List.mem_cons_of_mem _ hj, hr⟩
    | some x =>
      simp only [hn, List.mem_cons] at h
      rcases h with rfl | h
      · exact ⟨i, List.mem_cons_self, hn⟩
      · obtain ⟨j, hj, hr⟩ := mem_selM_idx is r h
        exact ⟨j, List.mem_cons_of_mem _ hj, hr⟩

theorem Mem.apart_idx {w : World} (h : Mem W w0 m w) {i j : Nat} {r s : Res} (hi : nth m i = some r) (hj : nth m j = some s) (hne : i ≠ j) {k : Nat} (hk : r.block = some k) : s.block ≠ some k := by
  rw [nth_eq] at hi hj
  have h1 := (List.getElem?_eq_some_iff.1 hi)
  have h2 := (List.getElem?_eq_some_iff.1 hj)
  obtain ⟨hi1, hi2⟩ := h1
  obtain ⟨hj1, hj2⟩ := h2
  have hpw := List.pairwise_iff_getElem.1 h.apart
  rcases Nat.lt_or_ge i j with hlt | hge
  · have := hpw i j hi1 hj1 hlt k (by rw [hi2]; exact hk)
    rwa [hj2] at this
  · intro hs
    have := hpw j i hj1 hi1 (by omega) k (by rw [hj2]; exact hs)
    rw [hi2] at this
    exact this hk

theorem Mem.sel {w : World} (h : Mem W w0 m w) (is : List Nat) (ha : nod is = true) : Mem W w0 (selM m is) w := by
  refine ⟨fun r hr => h.holds r (mem_selM is r hr), fun r hr => h.may r (mem_selM is r hr), ?_⟩
  induction is with
  | nil => simp [selM]
  | cons i is ih =>
    simp only [nod, Bool.and_eq_true, Bool.not_eq_true', List.any_eq_false] at ha
    unfold selM
    cases hn : nth m i with
    | none => exact ih ha.2
    | some x =>
      refine List.Pairwise.cons (fun s hs k hk => ?_) (ih ha.2)
      obtain ⟨j, hj, hjn⟩ := mem_selM_idx is s hs
      refine h.apart_idx hn hjn (fun e => ?_) hk
      subst e
      have := ha.1 i hj
      simp at this

/-- To forget slots and resources. -/
theorem Ok.weak {K : Act → World → Prop} (l' : List (Nat × Value)) (is : List Nat) {m' : List Res} (hs : subL l l') (hm : selM m is = m') (ha : nod is = true) (h : Ok n W w0 l' m' K) : Ok n W w0 l m K :=
  fun a w st => h a w ⟨st.has.sub hs, hm ▸ st.mem.sel is ha, st.keeps⟩

theorem Ok.slots {K : Act → World → Prop} (l' : List (Nat × Value)) (hs : subL l l') (h : Ok n W w0 l' m K) : Ok n W w0 l m K :=
  fun a w st => h a w ⟨st.has.sub hs, st.mem, st.keeps⟩

/-! ### Code -/
theorem Ok.seq {x y : Code} (h : ∀ K : Act → World → Prop, (∀ l m, Ok n W w0 l m (y.wp P Q) → Ok n W w0 l m K) → Ok n W w0 l m (x.wp P (Exit.then K Q))) : Ok n W w0 l m ((Code.seq x y).wp P Q) :=
  fun a w st => wp_seq_k fun K hK => h K (fun _ _ hy a w st => hK a w (hy a w st)) a w st

theorem Ok.skip {K : Act → World → Prop} (h : Ok n W w0 l m K) : Ok n W w0 l m (Code.skip.wp P (Exit.then K Q)) := fun a w st => wp_skip (h a w st)
theorem Ok.skip' (h : Ok n W w0 l m (Q .normal)) : Ok n W w0 l m (Code.skip.wp P Q) := fun a w st => wp_skip (h a w st)
theorem Ok.label {k : Nat} (h : Ok n W w0 l m (Q .normal)) : Ok n W w0 l m ((Code.label k).wp P Q) := fun a w st => wp_label (h a w st)

theorem Ok.cond {c : Operand} {x y : Code} {t : Bool} (hc : ev l c = some (.bool t)) (ht : t = true → Ok n W w0 l m (x.wp P Q)) (hf : t = false → Ok n W w0 l m (y.wp P Q)) : Ok n W w0 l m ((Code.cond c x y).wp P Q) :=
  fun a w st => wp_cond_split (st.has.ev hc) (fun h => ht h a w st) (fun h => hf h a w st)
theorem Ok.condT {c : Operand} {x y : Code} (hc : ev l c = some (.bool true)) (ht : Ok n W w0 l m (x.wp P Q)) : Ok n W w0 l m ((Code.cond c x y).wp P Q) :=
  fun a w st => wp_cond_true (st.has.ev hc) (ht a w st)
theorem Ok.condF {c : Operand} {x y : Code} (hc : ev l c = some (.bool false)) (hf : Ok n W w0 l m (y.wp P Q)) : Ok n W w0 l m ((Code.cond c x y).wp P Q) :=
  fun a w st => wp_cond_false (st.has.ev hc) (hf a w st)

theorem Ok.block {id : Nat} {c : Code} (h : Ok n W w0 l m (c.wp P (Exit.inBlock id Q))) : Ok n W w0 l m ((Code.block id c).wp P Q) :=
  fun a w st => wp_block (h a w st)
theorem Ok.scope {c : Code} (h : Ok n W w0 l m (c.wp P (Exit.noGoto Q))) : Ok n W w0 l m ((Code.scope c).wp P Q) :=
  fun a w st => wp_scope_straight (h a w st)
theorem Ok.exit {id : Nat} (h : Ok n W w0 l m (Q (.exit id))) : Ok n W w0 l m ((Code.exit id).wp P Q) := fun a w st => wp_exit (h a w st)

/-- the end of a function -/
theorem Ok.ret {fn : Func} {R : Ending → World → Prop} {v : Value} (hQ : ∀ a w, bodyPost P fn R .ret a w → Q .ret a w)
    (hr : ∀ a w, St n W w0 l m a w → (results fn a.tmps).run P w = .ok v w)
    (h : ∀ w, Mem W w0 m w → Keeps W w0 w → R (.returned v) w) : Ok n W w0 l m (Code.ret.wp P Q) :=
  fun a w st => wp_ret (hQ a w ⟨st.has.defers, v, hr a w st, h w st.mem st.keeps⟩)

theorem Ok.fin {fn : Func} {R : Ending → World → Prop} {v : Value} (hQ : ∀ a w, bodyPost P fn R .normal a w → Q .normal a w)
    (hr : ∀ a w, St n W w0 l m a w → (results fn a.tmps).run P w = .ok v w)
    (h : ∀ w, Mem W w0 m w → Keeps W w0 w → R (.returned v) w) : Ok n W w0 l m (Q .normal) :=
  fun a w st => hQ a w ⟨st.has.defers, v, hr a w st, h w st.mem st.keeps⟩

theorem res0 {fn : Func} (h : fn.results = #[]) : ∀ a w, St n W w0 l m a w → (results fn a.tmps).run P w = .ok (.tuple #[]) w :=
  fun a w _ => results_none h a.tmps P w
theorem res1 {fn : Func} {t : Tmp} {v : Value} (h : fn.results = #[.tmp t]) (hv : look l t = some v) : ∀ a w, St n W w0 l m a w → (results fn a.tmps).run P w = .ok v w :=
  fun a w st => by rw [results_tmp h a.tmps P w]; simp [st.has.get t v hv]
theorem res2 {fn : Func} {t u : Tmp} {v x : Value} (h : fn.results = #[.tmp t, .tmp u]) (hv : look l t = some v) (hx : look l u = some x) : ∀ a w, St n W w0 l m a w → (results fn a.tmps).run P w = .ok (.tuple #[v, x]) w :=
  fun a w st => by rw [results_tmp2 h a.tmps P w]; simp [st.has.get t v hv, st.has.get u x hx]

/-! ### Entry -/
def enum : Nat → List Value → List (Nat × Value)
  | _, [] => []
  | k, v :: r => (k, v) :: enum (k + 1) r

theorem look_enum : ∀ (vs : List Value) (k d : Nat) (v : Value), look (enum k vs) d = some v → k ≤ d ∧ vs[d - k]? = some v
  | [], k, d, v, h => by simp [enum, look] at h
  | x :: r, k, d, v, h => by
    unfold enum look at h
    cases hb : Nat.beq k d with
    | true =>
      have : k = d := Nat.eq_of_beq_eq_true hb
      subst this
      simp at h
      simp [h]
    | false =>
      have hne : k ≠ d := fun he => by subst he; simp at hb
      simp only [hb, cond_false] at h
      obtain ⟨h1, h2⟩ := look_enum r (k + 1) d v h
      refine ⟨by omega, ?_⟩
      rw [show d - k = (d - (k + 1)) + 1 by omega]
      simpa using h2

theorem calls_ok {f : FuncId} {fn : Func} {c : Code} {args : List Value} {R : Ending → World → Prop} (hf : P.funcs[f]? = some fn) (hb : fn.body = some c) (hn : fn.ntmps = n) (hl : Nat.ble args.length n = true)
    (hm : Mem W w0 m w0) (h : Ok n W w0 (enum 0 args) m (c.wp P (bodyPost P fn R))) : Calls P f args.toArray w0 R := by
  refine calls_of_wp hf hb ?_
  refine h _ _ ⟨⟨?_, rfl, ?_⟩, hm, Keeps.refl W w0⟩
  · have := Nat.le_of_ble_eq_true hl
    simp [hn]
    omega
  · intro d v hd
    obtain ⟨_, h2⟩ := look_enum args 0 d v hd
    simp only [Nat.sub_zero] at h2
    have hlt : d < args.length := (List.getElem?_eq_some_iff.1 h2).1
    show (args.toArray ++ Array.replicate _ undef)[d]? = some v
    rw [Array.getElem?_append_left (by simpa using hlt)]
    simpa using h2

/-! ### Regions -/
theorem Ok.region {id : Nat} {os : List Oper} (h : Ok n W w0 l m (wpList P os.toArray Q os)) : Ok n W w0 l m ((Code.region id os.toArray false).wp P Q) :=
  fun a w st => wp_region_lit (h a w st)

theorem Ok.nil (h : Ok n W w0 l m (Q .normal)) : Ok n W w0 l m (wpList P ops Q []) := fun a w st => wpList_nil (h a w st)

/-- An operation that yields v and leaves the world as it is. -/
def Pure (P : Program) (n : Nat) (W : Nat → Prop) (w0 : World) (l : List (Nat × Value)) (m : List Res) (o : Oper) (v : Value) : Prop :=
  ∀ a w, St n W w0 l m a w → (execOp a.eval o).run P w = .ok (.value v) w

theorem Ok.op {d : Nat} {v : Value} (hg : o.guard = none) (hd : o.dst = some d) (hdn : Nat.ble (d + 1) n = true) (hp : Pure P n W w0 l m o v) (h : Ok n W w0 ((d, v) :: l) m (wpList P ops Q rest)) : Ok n W w0 l m (wpList P ops Q (o :: rest)) := by
  intro a w st
  refine wpList_plain hg fun K hK => ?_
  unfold Oper.wp
  rw [hp a w st, Oper.upon_value, hd]
  exact hK _ _ (h _ _ (st.put v hdn))

theorem wanted_of {g : Nat} {want c : Bool} {og : Oper} {dg : Nat} {a : Act} {w : World} (hg : o.guard = some (g, want)) (ho : ops[g]? = some og) (hd : og.dst = some dg) (hc : look l dg = some (.bool c)) (st : St n W w0 l m a w) : Region.wanted o (yielded ops a.tmps) = (c == want) := by
  have h1 := st.has.get dg _ hc
  simp [Region.wanted, hg, yielded, ho, hd, h1]

/-- a guarded operation that is carried out -/
theorem Ok.opG {d g dg : Nat} {want c : Bool} {og : Oper} {v : Value} (hg : o.guard = some (g, want)) (ho : ops[g]? = some og) (hgd : og.dst = some dg) (hc : look l dg = some (.bool c)) (hcw : (c == want) = true)
    (hd : o.dst = some d) (hdn : Nat.ble (d + 1) n = true) (hp : Pure P n W w0 l m o v) (h : Ok n W w0 ((d, v) :: l) m (wpList P ops Q rest)) : Ok n W w0 l m (wpList P ops Q (o :: rest)) := by
  intro a w st
  refine wpList_step fun K hK => ?_
  rw [wanted_of hg ho hgd hc st, if_pos hcw]
  unfold Oper.wp
  rw [hp a w st, Oper.upon_value, hd]
  exact hK _ _ (h _ _ (st.put v hdn))

/-- a guarded operation that is passed over -/
theorem Ok.opS {d g dg : Nat} {want c : Bool} {og : Oper} (hg : o.guard = some (g, want)) (ho : ops[g]? = some og) (hgd : og.dst = some dg) (hc : look l dg = some (.bool c)) (hcw : (c == want) = false)
    (hd : o.dst = some d) (hdn : Nat.ble (d + 1) n = true) (h : Ok n W w0 ((d, undef) :: l) m (wpList P ops Q rest)) : Ok n W w0 l m (wpList P ops Q (o :: rest)) := by
  intro a w st
  refine wpList_step fun K hK => ?_
  rw [wanted_of hg ho hgd hc st, if_neg (by simp [hcw]), hd]
  exact hK _ _ (h _ _ (st.put undef hdn))

theorem wanted_un {g : Nat} {want : Bool} {og : Oper} {dg : Nat} {a : Act} {w : World} (hg : o.guard = some (g, want)) (ho : ops[g]? = some og) (hd : og.dst = some dg) (hc : look l dg = some undef) (st : St n W w0 l m a w) : Region.wanted o (yielded ops a.tmps) = false := by
  have h1 := st.has.get dg _ hc
  simp [Region.wanted, hg, yielded, ho, hd, h1, undef]

/-- a guarded operation whose guard was passed over -/
theorem Ok.opU {d g dg : Nat} {want : Bool} {og : Oper} (hg : o.guard = some (g, want)) (ho : ops[g]? = some og) (hgd : og.dst = some dg) (hc : look l dg = some undef)
    (hd : o.dst = some d) (hdn : Nat.ble (d + 1) n = true) (h : Ok n W w0 ((d, undef) :: l) m (wpList P ops Q rest)) : Ok n W w0 l m (wpList P ops Q (o :: rest)) := by
  intro a w st
  refine wpList_step fun K hK => ?_
  rw [wanted_un hg ho hgd hc st, if_neg (by simp), hd]
  exact hK _ _ (h _ _ (st.put undef hdn))

theorem Has.dup {a : Act} (h : Has n l a) {d : Nat} {v : Value} (hd : look l d = some v) : Has n ((d, v) :: l) a := by
  refine ⟨h.size, h.defers, fun e u hu => ?_⟩
  unfold look at hu
  cases hb : Nat.beq d e with
  | true =>
    have : d = e := Nat.eq_of_beq_eq_true hb
    subst this
    simp at hu
    subst hu
    exact h.get _ _ hd
  | false =>
    simp only [hb, cond_false] at hu
    exact h.get _ _ hu

/-- the two values of a slot -/
theorem Ok.split {K : Act → World → Prop} {d : Nat} {c : Bool} (hc : look l d = some (.bool c)) (ht : c = true → Ok n W w0 ((d, .bool true) :: l) m K) (hf : c = false → Ok n W w0 ((d, .bool false) :: l) m K) : Ok n W w0 l m K := by
  cases c with
  | true => exact fun a w st => ht rfl a w ⟨st.has.dup hc, st.mem, st.keeps⟩
  | false => exact fun a w st => hf rfl a w ⟨st.has.dup hc, st.mem, st.keeps⟩
end
end Go.SL
