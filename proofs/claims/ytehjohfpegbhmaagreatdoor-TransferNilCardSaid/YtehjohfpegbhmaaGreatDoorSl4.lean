/- A small logic for walks: operations that change the world, calls, regions whose order is drawn, loops. -/
import Derived.Test.YtehjohfpegbhmaaGreatDoorSl3
namespace Go.SL
open Go.RowKit

section
variable {P : Program} {n : Nat} {W : Nat → Prop} {w0 : World} {l : List (Nat × Value)} {m : List Res} {ops : Array Oper} {Q : Exit → Act → World → Prop} {rest : List Oper} {o : Oper}

def setN : List Res → Nat → Res → List Res
  | [], _, _ => []
  | _ :: m, 0, r => r :: m
  | x :: m, i + 1, r => x :: setN m i r

theorem setN_eq : ∀ (m : List Res) (i : Nat) (r : Res), setN m i r = m.set i r
  | [], _, _ => rfl
  | _ :: m, 0, r => rfl
  | x :: m, i + 1, r => by simp [setN, setN_eq m i r]

/-- one block of ours is written -/
theorem Mem.set {i b : Nat} {ob ob' : Obj} {w w' : World} (hm : nth m i = some (.blk b ob)) (h : Mem W w0 m w) (hb : w'.heap[b]? = some ob') (hs : w.heap.size ≤ w'.heap.size) (ho : ∀ k, k ≠ b → k < w.heap.size → w'.heap[k]? = w.heap[k]?) : Mem W w0 (setN m i (.blk b ob')) w' := by
  rw [nth_eq] at hm
  have hi : i < m.length := (List.getElem?_eq_some_iff.1 hm).1
  have hmi : m[i] = .blk b ob := (List.getElem?_eq_some_iff.1 hm).2
  rw [setN_eq]
  have hpw := List.pairwise_iff_getElem.1 h.apart
  -- another one's block is not b
  have hne : ∀ (j : Nat) (hj : j < m.length), j ≠ i → ∀ k, (m[j]).block = some k → k ≠ b := by
    intro j hj hji k hk hkb
    subst hkb
    rcases Nat.lt_or_ge j i with hlt | hge
    · exact hpw j i hj hi hlt k hk (by rw [hmi]; rfl)
    · exact hpw i j hi hj (by omega) k (by rw [hmi]; rfl) hk
  refine ⟨?_, ?_, ?_⟩
  · intro r hr
    obtain ⟨j, hj, rfl⟩ := List.mem_iff_getElem.1 hr
    simp only [List.length_set] at hj
    by_cases hji : i = j
    · subst hji; rw [List.getElem_set_self]; exact hb
    · rw [List.getElem_set_ne hji]
      have hh := h.holds m[j] (List.getElem_mem hj)
      cases hx : m[j] with
      | blk c oc =>
        rw [hx] at hh
        have hlt : c < w.heap.size := Res.block_lt hh rfl
        have : c ≠ b := hne j hj (fun e => hji e.symm) c (by rw [hx]; rfl)
        show w'.heap[c]? = some oc
        rw [ho c this hlt]; exact hh
      | row v e sz k xs =>
        rw [hx] at hh
        refine ⟨hh.1, ?_⟩
        rcases hh.2 with h1 | ⟨g, cap, cur, fz, rfl, hbg, hg, rest⟩
        · exact .inl h1
        · refine .inr ⟨g, cap, cur, fz, rfl, hbg, ?_, rest⟩
          have hlt : g < w.heap.size := (Array.getElem?_eq_some_iff.1 hg).1
          rw [ho g (hne j hj (fun e => hji e.symm) g (by rw [hx]; rfl)) hlt]; exact hg
  · intro r hr k hk
    obtain ⟨j, hj, rfl⟩ := List.mem_iff_getElem.1 hr
    simp only [List.length_set] at hj
    by_cases hji : i = j
    · subst hji
      simp only [List.getElem_set_self, Res.block, Option.some.injEq] at hk
      subst hk
      exact h.may m[i] (List.getElem_mem hj) b (by rw [hmi]; rfl)
    · rw [List.getElem_set_ne hji] at hk
      exact h.may m[j] (List.getElem_mem hj) k hk
  · rw [List.pairwise_iff_getElem]
    intro j1 j2 h1 h2 hlt k hk1 hk2
    simp only [List.length_set] at h1 h2
    by_cases e1 : i = j1
    · subst e1
      simp only [List.getElem_set_self, Res.block, Option.some.injEq] at hk1
      subst hk1
      rw [List.getElem_set_ne (by omega)] at hk2
      exact hne j2 h2 (by omega) b hk2 rfl
    · rw [List.getElem_set_ne e1] at hk1
      by_cases e2 : i = j2
      · subst e2
        simp only [List.getElem_set_self, Res.block, Option.some.injEq] at hk2
        subst hk2
        exact hne j1 h1 (by omega) b hk1 rfl
      · rw [List.getElem_set_ne e2] at hk2
        exact hpw j1 j2 h1 h2 hlt k hk1 hk2

theorem Keeps.write {b : Nat} {w w' : World} (h : Keeps W w0 w) (hb : w0.heap.size ≤ b ∨ W b) (h1 : w'.os = w.os) (h2 : w'.tape = w.tape) (h3 : w'.output = w.output) (hs : w.heap.size ≤ w'.heap.size) (ho : ∀ k, k ≠ b → k < w.heap.size → w'.heap[k]? = w.heap[k]?) : Keeps W w0 w' := by
  refine ⟨h1.trans h.os, h2.trans h.tape, h3.trans h.output, Nat.le_trans h.size hs, fun k hk hn => ?_⟩
  refine (ho k (fun e => ?_) (Nat.lt_of_lt_of_le hk h.size)).trans (h.block k hk hn)
  subst e
  rcases hb with hb | hb
  · omega
  · exact hn hb

/-- An operation with its effect: for some x with φ x, the slots are l' x and the memory m' x. -/
def Eff (P : Program) (n : Nat) (W : Nat → Prop) (w0 : World) (l : List (Nat × Value)) (m : List Res) (o : Oper) (Q : Exit → Act → World → Prop) (X : Type) (φ : X → Prop) (l' : X → List (Nat × Value)) (m' : X → List Res) : Prop :=
  ∀ a w (K : Act → World → Prop), St n W w0 l m a w → (∀ x, φ x → ∀ a' w', St n W w0 (l' x) (m' x) a' w' → K a' w') → o.wp P a w K Q

theorem Ok.eff {X : Type} {φ : X → Prop} {l' : X → List (Nat × Value)} {m' : X → List Res} (hg : o.guard = none) (he : Eff P n W w0 l m o Q X φ l' m') (h : ∀ x, φ x → Ok n W w0 (l' x) (m' x) (wpList P ops Q rest)) : Ok n W w0 l m (wpList P ops Q (o :: rest)) :=
  fun a w st => wpList_plain hg fun K hK => he a w K st fun x hx a' w' st' => hK a' w' (h x hx a' w' st')

theorem Ok.effG {X : Type} {φ : X → Prop} {l' : X → List (Nat × Value)} {m' : X → List Res} {g dg : Nat} {want c : Bool} {og : Oper} (hg : o.guard = some (g, want)) (ho : ops[g]? = some og) (hgd : og.dst = some dg) (hc : look l dg = some (.bool c)) (hcw : (c == want) = true)
    (he : Eff P n W w0 l m o Q X φ l' m') (h : ∀ x, φ x → Ok n W w0 (l' x) (m' x) (wpList P ops Q rest)) : Ok n W w0 l m (wpList P ops Q (o :: rest)) := by
  intro a w st
  refine wpList_step fun K hK => ?_
  rw [wanted_of hg ho hgd hc st, if_pos hcw]
  exact he a w K st fun x hx a' w' st' => hK a' w' (h x hx a' w' st')

theorem Eff.alloc {t : TypeId} {d : Nat} (zs : List Seg) (ho : o.op = .alloc t) (hd : o.dst = some d) (hdn : Nat.ble (d + 1) n = true) (hz : zcells P t = some (flat zs)) :
    Eff P n W w0 l m o Q Nat (fun _ => True) (fun b => (d, .pointer (some ⟨b, 0, none⟩)) :: l) (fun b => .blk b (.cells (flat zs) t (0, 0)) :: m) := by
  intro a w K st h
  obtain ⟨v, hv, hc⟩ := run_zeroValue hz w
  have hr : (execOp a.eval o).run P w = .ok (.value (.pointer (some ⟨w.heap.size, 0, none⟩))) (w.alloc (.cells (flat zs) t (0, 0))) := by
    simp [execOp, ho, Instr.alloc, hv, newVar, newRow, hc]
  unfold Oper.wp
  rw [hr, Oper.upon_value, hd]
  refine h w.heap.size trivial _ _ ⟨st.has.put _ hdn, ?_, st.keeps.trans (Keeps.alloc W w _)⟩
  exact st.mem.cons_new (Keeps.alloc none1 w _) st.keeps.size (heap_alloc_new w _) (fun k hk => by simp [Res.block] at hk; omega)

theorem Eff.box {t : TypeId} {x : Operand} {d : Nat} {v : Value} (q : List Seg) (ho : o.op = .box t x) (hx : ev l x = some v) (hq : v.cells = flat q) (hd : o.dst = some d) (hdn : Nat.ble (d + 1) n = true) :
    Eff P n W w0 l m o Q Nat (fun _ => True) (fun b => (d, .pointer (some ⟨b, 0, none⟩)) :: l) (fun b => .blk b (.cells (flat q) t (0, 0)) :: m) := by
  intro a w K st h
  have hr : (execOp a.eval o).run P w = .ok (.value (.pointer (some ⟨w.heap.size, 0, none⟩))) (w.alloc (.cells (flat q) t (0, 0))) := by
    simp [execOp, ho, Instr.box, newVar, newRow, st.has.ev hx, hq]
  unfold Oper.wp
  rw [hr, Oper.upon_value, hd]
  refine h w.heap.size trivial _ _ ⟨st.has.put _ hdn, ?_, st.keeps.trans (Keeps.alloc W w _)⟩
  exact st.mem.cons_new (Keeps.alloc none1 w _) st.keeps.size (heap_alloc_new w _) (fun k hk => by simp [Res.block] at hk; omega)

theorem run_storeSegs {t : TypeId} {b off k : Nat} {v : Value} {ss q ss' : List Seg} {T : TypeId} {w : World} (hb : w.heap[b]? = some (.cells (flat ss) T (0, 0))) (hv : v.cells = flat q) (hk : csz P t = some k) (hq : width q = k) (hs : spl ss off q k = some ss') :
    (Instr.storeAt t (.pointer (some ⟨b, off, none⟩)) v).run P w = .ok () (w.setRow b (flat ss')) := by
  obtain ⟨h1, h2⟩ := spl_spec ss off k q ss' hs hq
  have hlen : v.cells.toList.length = k := by rw [hv, Array.length_toList, flat_size, hq]
  have hst := run_storeCells_at P b off T v.cells.toList 0 (flat ss) w hb (by rw [hlen, flat_size]; omega) (fun x hx => flat_one q x (by rw [← hv]; exact hx))
  have he : ((flat ss).toList.take (off + 0) ++ v.cells.toList ++ (flat ss).toList.drop (off + 0 + v.cells.toList.length)).toArray = flat ss' := by
    rw [hlen, h2, hv]
    apply Array.ext'
    simp only [Nat.add_zero, Array.toList_append, Array.toList_extract, List.extract_eq_take_drop, List.drop_zero, Nat.sub_zero]
    congr 1
    rw [List.take_of_length_le]
    simp [flat_size]
  rw [he] at hst
  simp [Instr.storeAt, Instr.sureAddr, storeVar, run_sizeOf hk, show v.cells.size = k by simpa using hlen, hst]

theorem Eff.storeG {t : TypeId} {x y : Operand} {b off k : Nat} {v : Value} (i : Nat) {ss ss' : List Seg} (q : List Seg) {T : TypeId} (ho : o.op = .store t x y) (hd : o.dst = none) (hx : ev l x = some (.pointer (some ⟨b, off, none⟩))) (hy : ev l y = some v) (hv : v.cells = flat q)
    (hm : nth m i = some (.blk b (.cells (flat ss) T (0, 0)))) (hk : csz P t = some k) (hq : width q = k) (hs : spl ss off q k = some ss') :
    Eff P n W w0 l m o Q Unit (fun _ => True) (fun _ => l) (fun _ => setN m i (.blk b (.cells (flat ss') T (0, 0)))) := by
  intro a w K st h
  have hb := st.mem.blk hm
  have hlt : b < w.heap.size := (Array.getElem?_eq_some_iff.1 hb).1
  have hr : (execOp a.eval o).run P w = .ok .skip (w.setRow b (flat ss')) := by
    simp [execOp, ho, st.has.ev hx, st.has.ev hy, run_storeSegs hb hv hk hq hs]
  unfold Oper.wp
  rw [hr, Oper.upon_skip, hd]
  refine h () trivial _ _ ⟨st.has, ?_, ?_⟩
  · exact st.mem.set hm (setRow_heap w b _ _ T _ hb) (by simp [World.setRow]) (fun k hk _ => setRow_other w b k _ hk)
  · rw [nth_eq] at hm
    exact st.keeps.write (st.mem.may _ (List.mem_of_getElem? hm) b rfl) rfl rfl rfl (by simp [World.setRow]) (fun k hk _ => setRow_other w b k _ hk)

/-! ### Calls -/
def blocksOf (ms : List Res) : Nat → Prop := fun k => ∃ r ∈ ms, r.block = some k

/-- what a contract says of the world behind the call -/
structure Post (w : World) (S : Nat → Prop) (ms : List Res) (w' : World) : Prop where
  keeps : Keeps S w w'
  mem : Mem S w ms w'

theorem run_call {f : FuncId} (h : entersB P f = true) (args : Array Value) (w : World) : (callFunc f args).run P w = .ok (.enter f args) w := by
  unfold entersB at h
  cases hf : P.funcs[f]? with
  | none => simp [hf] at h
  | some fn =>
    simp only [hf, Bool.and_eq_true, Bool.not_eq_true', beq_eq_false_iff_ne] at h
    obtain ⟨h1, h2⟩ := h
    obtain ⟨c, hc⟩ := Option.isSome_iff_exists.1 h2
    simp [callFunc, hf, h1, hc]

theorem run_callOp {f : FuncId} {xs : List Operand} {vs : List Value} {ts : Array TypeId} {x : Operand} (ho : o.op = .call { callee := .value x, args := xs.toArray, argTypes := ts }) (hx : ev l x = some (.func (.func f) #[] #[])) (hf : entersB P f = true) (hv : evs l xs = some vs) {a : Act} {w : World} (st : St n W w0 l m a w) :
    (execOp a.eval o).run P w = .ok (.enter f vs.toArray) w := by
  have h1 : Array.map a.eval xs.toArray = vs.toArray := by rw [List.map_toArray, st.has.evs hv]
  simp [execOp, ho, resolve, st.has.ev hx, Deferred.ofValue, invoke, h1, run_call hf]

/-- a method value or closure over receivers: the captured ones come behind the arguments -/
theorem run_callFn {f : FuncId} {xs : List Operand} {vs first cap : List Value} {ts : Array TypeId} {x : Operand} (ho : o.op = .call { callee := .value x, args := xs.toArray, argTypes := ts }) (hx : ev l x = some (.func (.func f) first.toArray cap.toArray)) (hf : entersB P f = true) (hv : evs l xs = some vs) {a : Act} {w : World} (st : St n W w0 l m a w) :
    (execOp a.eval o).run P w = .ok (.enter f (first ++ vs ++ cap).toArray) w := by
  have h1 : Array.map a.eval xs.toArray = vs.toArray := by rw [List.map_toArray, st.has.evs hv]
  simp [execOp, ho, resolve, st.has.ev hx, Deferred.ofValue, invoke, h1, run_call hf]

/-- the slots behind a call -/
def putD (d : Option Tmp) (v : Value) (l : List (Nat × Value)) : List (Nat × Value) :=
  match d with
  | some d => (d, v) :: l
  | none => l

def dstOk (n : Nat) : Option Tmp → Bool
  | some d => Nat.ble (d + 1) n
  | none => true

theorem Has.putD {a : Act} (h : Has n l a) (d : Option Tmp) (v : Value) (hd : dstOk n d = true) : Has n (SL.putD d v l) (a.put d v) := by
  cases d with
  | none => exact h
  | some d => exact h.put v hd

def disj : List Nat → List Nat → Bool
  | [], _ => true
  | i :: is, js => !(js.any (Nat.beq i)) && disj is js

theorem nth_sel_ne {is js : List Nat} (hd : disj is js = true) : ∀ i ∈ is, i ∉ js := by
  induction is with
  | nil => simp
  | cons x is ih =>
    simp only [disj, Bool.and_eq_true, Bool.not_eq_true', List.any_eq_false] at hd
    intro i hi
    rcases List.mem_cons.1 hi with rfl | hi
    · intro hj
      have := hd.1 i hj
      simp at this
    · exact ih hd.2 i hi

/-- behind a call that may have changed the resources 'is' and leaves ms: the others, 'js', are as they were -/
theorem Mem.after {is js : List Nat} {ms : List Res} {w w' : World} (h : Mem W w0 m w) (h0 : w0.heap.size ≤ w.heap.size) (hd : disj is js = true) (hj : nod js = true) (hp : Post w (blocksOf (selM m is)) ms w') : Mem W w0 (ms ++ selM m js) w' := by
  have hjs := h.sel js hj
  have hno : ∀ r ∈ selM m js, ∀ k, r.block = some k → ¬ blocksOf (selM m is) k := by
    intro r hr k hk ⟨s, hs, hsk⟩
    obtain ⟨j, hjm, hjn⟩ := mem_selM_idx js r hr
    obtain ⟨i, him, hin⟩ := mem_selM_idx is s hs
    exact h.apart_idx hjn hin (fun e => nth_sel_ne hd i him (e ▸ hjm)) hk hsk
  refine ⟨?_, ?_, ?_⟩
  · intro r hr
    rcases List.mem_append.1 hr with hr | hr
    · exact hp.mem.holds r hr
    · exact Res.keeps (hjs.holds r hr) hp.keeps (hno r hr)
  · intro r hr k hk
    rcases List.mem_append.1 hr with hr | hr
    · rcases hp.mem.may r hr k hk with hh | ⟨s, hs, hsk⟩
      · exact .inl (Nat.le_trans h0 hh)
      · exact h.may s (mem_selM is s hs) k hsk
    · exact hjs.may r hr k hk
  · refine List.pairwise_append.2 ⟨hp.mem.apart, hjs.apart, fun r hr s hs k hk hk2 => ?_⟩
    rcases hp.mem.may r hr k hk with hh | hh
    · have := Res.block_lt (hjs.holds s hs) hk2
      omega
    · exact hno s hs k hk2 hh

theorem Keeps.after {is : List Nat} {ms : List Res} {w w' : World} (hk : Keeps W w0 w) (h : Mem W w0 m w) (hp : Post w (blocksOf (selM m is)) ms w') : Keeps W w0 w' := by
  refine ⟨hp.keeps.os.trans hk.os, hp.keeps.tape.trans hk.tape, hp.keeps.output.trans hk.output, Nat.le_trans hk.size hp.keeps.size, fun k hlt hn => ?_⟩
  refine (hp.keeps.block k (Nat.lt_of_lt_of_le hlt hk.size) fun ⟨s, hs, hsk⟩ => ?_).trans (hk.block k hlt hn)
  rcases h.may s (mem_selM is s hs) k hsk with hh | hh
  · omega
  · exact hn hh

/-- A CALL BY ITS CONTRACT: 'is' are the resources that it is handed, 'js' those that stay. -/
theorem Eff.callE {f : FuncId} {vs : List Value} {X : Type} {φ : X → Prop} {val : X → Value} {mem : X → List Res} (is js : List Nat)
    (hr : ∀ a w, St n W w0 l m a w → (execOp a.eval o).run P w = .ok (.enter f vs.toArray) w) (hd : dstOk n o.dst = true) (hdj : disj is js = true) (hjs : nod js = true)
    (hc : ∀ w, Mem W w0 m w → Keeps W w0 w → Calls P f vs.toArray w (fun e w' => ∃ x, φ x ∧ e = .returned (val x) ∧ Post w (blocksOf (selM m is)) (mem x) w')) :
    Eff P n W w0 l m o Q X φ (fun x => putD o.dst (val x) l) (fun x => mem x ++ selM m js) := by
  intro a w K st h
  unfold Oper.wp
  rw [hr a w st, Oper.upon_enter]
  refine (hc w st.mem st.keeps).mono fun e w' ⟨x, hx, he, hp⟩ => ?_
  subst he
  exact h x hx _ _ ⟨st.has.putD _ _ hd, st.mem.after st.keeps.size hdj hjs hp, st.keeps.after st.mem hp⟩

theorem Eff.call {f : FuncId} {xs : List Operand} {vs : List Value} {ts : Array TypeId} {x : Operand} {X : Type} {φ : X → Prop} {val : X → Value} {mem : X → List Res} (is js : List Nat)
    (ho : o.op = .call { callee := .value x, args := xs.toArray, argTypes := ts }) (hx : ev l x = some (.func (.func f) #[] #[])) (hf : entersB P f = true) (hv : evs l xs = some vs) (hd : dstOk n o.dst = true) (hdj : disj is js = true) (hjs : nod js = true)
    (hc : ∀ w, Mem W w0 m w → Keeps W w0 w → Calls P f vs.toArray w (fun e w' => ∃ x, φ x ∧ e = .returned (val x) ∧ Post w (blocksOf (selM m is)) (mem x) w')) :
    Eff P n W w0 l m o Q X φ (fun x => putD o.dst (val x) l) (fun x => mem x ++ selM m js) :=
  Eff.callE is js (fun _ _ st => run_callOp ho hx hf hv st) hd hdj hjs hc

/-- a contract that only says what comes back, in a world that keeps all: one value -/
theorem Eff.callV {f : FuncId} {xs : List Operand} {vs : List Value} {ts : Array TypeId} {x : Operand} {v : Value}
    (ho : o.op = .call { callee := .value x, args := xs.toArray, argTypes := ts }) (hx : ev l x = some (.func (.func f) #[] #[])) (hf : entersB P f = true) (hv : evs l xs = some vs) (hd : dstOk n o.dst = true)
    (hc : ∀ w, Mem W w0 m w → Keeps W w0 w → Calls P f vs.toArray w (fun e w' => e = .returned v ∧ Keeps none1 w w')) :
    Eff P n W w0 l m o Q Unit (fun _ => True) (fun _ => putD o.dst v l) (fun _ => m) := by
  intro a w K st h
  unfold Oper.wp
  rw [run_callOp ho hx hf hv st, Oper.upon_enter]
  refine (hc w st.mem st.keeps).mono fun e w' ⟨he, hk⟩ => ?_
  subst he
  exact h () trivial _ _ ⟨st.has.putD _ _ hd, st.mem.keep hk, st.keeps.trans hk.weak⟩

/-! ### Regions whose order is drawn -/
/-- the head of a region: one world -/
def OkS (n : Nat) (W : Nat → Prop) (w0 : World) (l : List (Nat × Value)) (m : List Res) (w : World) (F : Act → Prop) : Prop := ∀ a, St n W w0 l m a w → F a

theorem OkS.op {Lq : Act → Prop} {w : World} {d : Nat} {v : Value} (hg : o.guard = none) (hd : o.dst = some d) (hdn : Nat.ble (d + 1) n = true) (hp : Pure P n W w0 l m o v) (h : OkS n W w0 ((d, v) :: l) m w (wpStill P ops w Lq rest)) : OkS n W w0 l m w (wpStill P ops w Lq (o :: rest)) := by
  intro a st
  refine wpStill_step fun K hK => ?_
  rw [if_pos (by simp [Region.wanted, hg])]
  unfold Oper.still
  rw [hp a w st, Oper.stillUpon_value, hd]
  exact hK _ (h _ (st.put v hdn))

theorem OkS.opG {Lq : Act → Prop} {w : World} {d g dg : Nat} {want c : Bool} {og : Oper} {v : Value} (hg : o.guard = some (g, want)) (ho : ops[g]? = some og) (hgd : og.dst = some dg) (hc : look l dg = some (.bool c)) (hcw : (c == want) = true)
    (hd : o.dst = some d) (hdn : Nat.ble (d + 1) n = true) (hp : Pure P n W w0 l m o v) (h : OkS n W w0 ((d, v) :: l) m w (wpStill P ops w Lq rest)) : OkS n W w0 l m w (wpStill P ops w Lq (o :: rest)) := by
  intro a st
  refine wpStill_step fun K hK => ?_
  rw [wanted_of hg ho hgd hc st, if_pos hcw]
  unfold Oper.still
  rw [hp a w st, Oper.stillUpon_value, hd]
  exact hK _ (h _ (st.put v hdn))

theorem OkS.opS {Lq : Act → Prop} {w : World} {d g dg : Nat} {want c : Bool} {og : Oper} (hg : o.guard = some (g, want)) (ho : ops[g]? = some og) (hgd : og.dst = some dg) (hc : look l dg = some (.bool c)) (hcw : (c == want) = false)
    (hd : o.dst = some d) (hdn : Nat.ble (d + 1) n = true) (h : OkS n W w0 ((d, undef) :: l) m w (wpStill P ops w Lq rest)) : OkS n W w0 l m w (wpStill P ops w Lq (o :: rest)) := by
  intro a st
  refine wpStill_step fun K hK => ?_
  rw [wanted_of hg ho hgd hc st, if_neg (by simp [hcw]), hd]
  exact hK _ (h _ (st.put undef hdn))

theorem OkS.opU {Lq : Act → Prop} {w : World} {d g dg : Nat} {want : Bool} {og : Oper} (hg : o.guard = some (g, want)) (ho : ops[g]? = some og) (hgd : og.dst = some dg) (hc : look l dg = some undef)
    (hd : o.dst = some d) (hdn : Nat.ble (d + 1) n = true) (h : OkS n W w0 ((d, undef) :: l) m w (wpStill P ops w Lq rest)) : OkS n W w0 l m w (wpStill P ops w Lq (o :: rest)) := by
  intro a st
  refine wpStill_step fun K hK => ?_
  rw [wanted_un hg ho hgd hc st, if_neg (by simp), hd]
  exact hK _ (h _ (st.put undef hdn))

theorem OkS.split {F : Act → Prop} {w : World} {d : Nat} {c : Bool} (hc : look l d = some (.bool c)) (ht : c = true → OkS n W w0 ((d, .bool true) :: l) m w F) (hf : c = false → OkS n W w0 ((d, .bool false) :: l) m w F) : OkS n W w0 l m w F := by
  cases c with
  | true => exact fun a st => ht rfl a ⟨st.has.dup hc, st.mem, st.keeps⟩
  | false => exact fun a st => hf rfl a ⟨st.has.dup hc, st.mem, st.keeps⟩

/-- the head is done: the tail goes on as a plain list -/
theorem OkS.tail {K : Act → World → Prop} {w : World} (h : Ok n W w0 l m K) : OkS n W w0 l m w (wpStill P ops w (fun a => K a w) []) := fun a st => wpStill_nil (h a w st)

/-- A REGION THAT DRAWS: k operations that only read, then the others in one forced order. -/
theorem Ok.still (k : Nat) {id : Nat} {os hs ts : List Oper} (hm : P.follows .mixedOrders = true) (hB : Region.lexTailB .any os.toArray k = true) (hh : os.take k = hs) (ht : os.drop k = ts)
    (h : ∀ w, OkS n W w0 l m w (wpStill P os.toArray w (fun a => wpList P os.toArray Q ts a w) hs)) : Ok n W w0 l m ((Code.region id os.toArray true).wp P Q) := by
  subst hh ht
  intro a w st
  exact wp_region_still_tail k hm hB (h _ a (st.keep (Keeps.drew none1 w)))

/-- whatever order is picked: under what stays known of the memory -/
def OkH (P : Program) (n : Nat) (W : Nat → Prop) (w0 : World) (mS : List Res) (ops : Array Oper) (Q : Exit → Act → World → Prop) (fuel : Nat) (listed : List Bool) (l : List (Nat × Value)) (m : List Res) : Prop :=
  ∀ a w, St n W w0 l m a w → wpAnyH P .any ops Q (fun w => Mem W w0 mS w ∧ Keeps W w0 w) fuel listed.toArray a w

def setB : List Bool → Nat → List Bool
  | [], _ => []
  | _ :: r, 0 => true :: r
  | b :: r, i + 1 => b :: setB r i

theorem setB_eq : ∀ (l : List Bool) (i : Nat), (setB l i).toArray = l.toArray.setIfInBounds i true
  | l, i => by
    have : setB l i = l.set i true := by
      induction l generalizing i with
      | nil => rfl
      | cons b r ih => cases i <;> simp [setB, ih]
    rw [this]; simp

theorem Ok.held (is : List Nat) {id : Nat} {os : List Oper} {fs : List Bool} (hm : P.follows .mixedOrders = true) (hf : (List.replicate os.length false) = fs) {k : Nat} (hk : os.length = k)
    (h : OkH P n W w0 (selM m is) os.toArray Q k fs l m) : Ok n W w0 l m ((Code.region id os.toArray true).wp P Q) := by
  intro a w st
  refine wp_region_held (S := fun w => Mem W w0 (selM m is) w ∧ Keeps W w0 w) hm ?_
  have := h a w.drew (st.keep (Keeps.drew none1 w))
  rw [← hk, ← hf] at this
  simpa using this

section held
variable {mS : List Res} {fuel : Nat} {listed : List Bool}

/-- take number i first: it yields v whatever the memory, as long as mS holds -/
theorem OkH.take (i : Nat) {oi : Oper} {d : Nat} {v : Value} {listed' : List Bool} (hi : ops[i]? = some oi) (hg : oi.guard = none) (hd : oi.dst = some d) (hdn : Nat.ble (d + 1) n = true)
    (hs : Region.noSelect ops = true) (hf : Region.free .any ops listed.toArray i = true) (hr : (Region.ready .any ops listed.toArray).contains i = true) (hl : setB listed i = listed')
    (hQ : ∀ c a w, Q (.panic c) (a.put (some d) v) w → Q (.panic c) a w) (is : List Nat) (hsel : selM m is = mS) (hasc : nod is = true) (hp : Pure P n W w0 l mS oi v)
    (h : OkH P n W w0 mS ops Q fuel listed' ((d, v) :: l) m) : OkH P n W w0 mS ops Q (fuel + 1) listed l m := by
  intro a w st
  have hS : Mem W w0 mS w ∧ Keeps W w0 w := ⟨hsel ▸ st.mem.sel is hasc, st.keeps⟩
  refine wpAnyH_take hi hs hf hr (by rw [hd]; exact hQ) (.inl ⟨by simp [Region.wanted, hg], fun w' hw' => hp a w' ⟨st.has, hw'.1, hw'.2⟩⟩) hS ?_
  rw [← setB_eq, hl, hd]
  exact h _ _ (st.put v hdn)

theorem OkH.takeG (i : Nat) {oi : Oper} {d g dg : Nat} {want c : Bool} {og : Oper} {v : Value} {listed' : List Bool} (hi : ops[i]? = some oi) (hg : oi.guard = some (g, want)) (ho : ops[g]? = some og) (hgd : og.dst = some dg) (hc : look l dg = some (.bool c)) (hcw : (c == want) = true)
    (hd : oi.dst = some d) (hdn : Nat.ble (d + 1) n = true)
    (hs : Region.noSelect ops = true) (hf : Region.free .any ops listed.toArray i = true) (hr : (Region.ready .any ops listed.toArray).contains i = true) (hl : setB listed i = listed')
    (hQ : ∀ c a w, Q (.panic c) (a.put (some d) v) w → Q (.panic c) a w) (is : List Nat) (hsel : selM m is = mS) (hasc : nod is = true) (hp : Pure P n W w0 l mS oi v)
    (h : OkH P n W w0 mS ops Q fuel listed' ((d, v) :: l) m) : OkH P n W w0 mS ops Q (fuel + 1) listed l m := by
  intro a w st
  have hS : Mem W w0 mS w ∧ Keeps W w0 w := ⟨hsel ▸ st.mem.sel is hasc, st.keeps⟩
  refine wpAnyH_take hi hs hf hr (by rw [hd]; exact hQ) (.inl ⟨by rw [wanted_of hg ho hgd hc st, hcw], fun w' hw' => hp a w' ⟨st.has, hw'.1, hw'.2⟩⟩) hS ?_
  rw [← setB_eq, hl, hd]
  exact h _ _ (st.put v hdn)

theorem OkH.takeS (i : Nat) {oi : Oper} {d g dg : Nat} {want c : Bool} {og : Oper} {listed' : List Bool} (hi : ops[i]? = some oi) (hg : oi.guard = some (g, want)) (ho : ops[g]? = some og) (hgd : og.dst = some dg) (hc : look l dg = some (.bool c)) (hcw : (c == want) = false)
    (hd : oi.dst = some d) (hdn : Nat.ble (d + 1) n = true)
    (hs : Region.noSelect ops = true) (hf : Region.free .any ops listed.toArray i = true) (hr : (Region.ready .any ops listed.toArray).contains i = true) (hl : setB listed i = listed')
    (hQ : ∀ c a w, Q (.panic c) (a.put (some d) undef) w → Q (.panic c) a w) (is : List Nat) (hsel : selM m is = mS) (hasc : nod is = true)
    (h : OkH P n W w0 mS ops Q fuel listed' ((d, undef) :: l) m) : OkH P n W w0 mS ops Q (fuel + 1) listed l m := by
  intro a w st
  have hS : Mem W w0 mS w ∧ Keeps W w0 w := ⟨hsel ▸ st.mem.sel is hasc, st.keeps⟩
  refine wpAnyH_take hi hs hf hr (by rw [hd]; exact hQ) (.inr ⟨by rw [wanted_of hg ho hgd hc st, hcw], rfl⟩) hS ?_
  rw [← setB_eq, hl, hd]
  exact h _ _ (st.put undef hdn)

theorem OkH.takeU (i : Nat) {oi : Oper} {d g dg : Nat} {want : Bool} {og : Oper} {listed' : List Bool} (hi : ops[i]? = some oi) (hg : oi.guard = some (g, want)) (ho : ops[g]? = some og) (hgd : og.dst = some dg) (hc : look l dg = some undef)
    (hd : oi.dst = some d) (hdn : Nat.ble (d + 1) n = true)
    (hs : Region.noSelect ops = true) (hf : Region.free .any ops listed.toArray i = true) (hr : (Region.ready .any ops listed.toArray).contains i = true) (hl : setB listed i = listed')
    (hQ : ∀ c a w, Q (.panic c) (a.put (some d) undef) w → Q (.panic c) a w) (is : List Nat) (hsel : selM m is = mS) (hasc : nod is = true)
    (h : OkH P n W w0 mS ops Q fuel listed' ((d, undef) :: l) m) : OkH P n W w0 mS ops Q (fuel + 1) listed l m := by
  intro a w st
  have hS : Mem W w0 mS w ∧ Keeps W w0 w := ⟨hsel ▸ st.mem.sel is hasc, st.keeps⟩
  refine wpAnyH_take hi hs hf hr (by rw [hd]; exact hQ) (.inr ⟨by rw [wanted_un hg ho hgd hc st], rfl⟩) hS ?_
  rw [← setB_eq, hl, hd]
  exact h _ _ (st.put undef hdn)

/-- the only one that may come up now -/
theorem OkH.eff (i : Nat) {oi : Oper} {X : Type} {φ : X → Prop} {l' : X → List (Nat × Value)} {m' : X → List Res} {listed' : List Bool} (hi : ops[i]? = some oi) (hg : oi.guard = none) (hr : Region.ready .any ops listed.toArray = [i]) (hl : setB listed i = listed')
    (is : List Nat) (hsel : ∀ x, selM (m' x) is = mS) (hasc : nod is = true) (he : Eff P n W w0 l m oi Q X φ l' m')
    (h : ∀ x, φ x → OkH P n W w0 mS ops Q fuel listed' (l' x) (m' x)) : OkH P n W w0 mS ops Q (fuel + 1) listed l m := by
  intro a w st
  refine wpAnyH_all hr (by simp) fun j hj => ?_
  have : j = i := by simpa using hj
  subst this
  unfold wpOp
  simp only [hi]
  rw [if_pos (by simp [Region.wanted, hg])]
  refine .inl (he a w _ st fun x hx a' w' st' => ⟨⟨hsel x ▸ st'.mem.sel is hasc, st'.keeps⟩, ?_⟩)
  rw [← setB_eq, hl]
  exact h x hx a' w' st'

theorem OkH.done (hr : Region.ready .any ops listed.toArray = []) (h : Ok n W w0 l m (Q .normal)) : OkH P n W w0 mS ops Q fuel listed l m :=
  fun a w st => wpAnyH_done hr (h a w st) fuel

theorem OkH.split {d : Nat} {c : Bool} (hc : look l d = some (.bool c)) (ht : c = true → OkH P n W w0 mS ops Q fuel listed ((d, .bool true) :: l) m) (hf : c = false → OkH P n W w0 mS ops Q fuel listed ((d, .bool false) :: l) m) : OkH P n W w0 mS ops Q fuel listed l m := by
  cases c with
  | true => exact fun a w st => ht rfl a w ⟨st.has.dup hc, st.mem, st.keeps⟩
  | false => exact fun a w st => hf rfl a w ⟨st.has.dup hc, st.mem, st.keeps⟩

theorem OkH.slots (l' : List (Nat × Value)) (hs : subL l l') (h : OkH P n W w0 mS ops Q fuel listed l' m) : OkH P n W w0 mS ops Q fuel listed l m :=
  fun a w st => h a w ⟨st.has.sub hs, st.mem, st.keeps⟩
end held

/-! ### Loops -/
/-- A LOOP: at the head of every round, for some x with φ x, the slots are L x and the memory M x; μ goes down. -/
theorem Ok.loop {c : Code} {X : Type} (φ : X → Prop) (L : X → List (Nat × Value)) (M : X → List Res) (μ : X → Nat)
    (h0 : ∀ a w, St n W w0 l m a w → ∃ x, φ x ∧ St n W w0 (L x) (M x) a w)
    (h : ∀ x, φ x → Ok n W w0 (L x) (M x) (c.wp P (Exit.then (fun a w => ∃ y, φ y ∧ μ y < μ x ∧ St n W w0 (L y) (M y) a w) Q))) : Ok n W w0 l m ((Code.loop c).wp P Q) := by
  intro a w st
  let I : Act → World → Prop := fun a w => ∃ x, φ x ∧ St n W w0 (L x) (M x) a w
  let G : Act → World → Nat → Prop := fun a w k => ∃ x, φ x ∧ St n W w0 (L x) (M x) a w ∧ μ x = k
  have hmin : ∀ a w, I a w → ∃ k, G a w k ∧ ∀ j, G a w j → k ≤ j := by
    intro a w ⟨x, hx, hs⟩
    have hex : ∃ k, G a w k := ⟨μ x, x, hx, hs, rfl⟩
    clear hx hs
    obtain ⟨k, hk⟩ := hex
    induction k using Nat.strongRecOn with
    | _ k ih =>
      by_cases hc : ∃ j, j < k ∧ G a w j
      · obtain ⟨j, hj, hg⟩ := hc; exact ih j hj hg
      · exact ⟨k, hk, fun j hj => Nat.le_of_not_lt fun hlt => hc ⟨j, hlt, hj⟩⟩
  open Classical in
  let ν : Act → World → Nat := fun a w => if hI : I a w then (hmin a w hI).choose else 0
  have hν : ∀ a w, (hI : I a w) → G a w (ν a w) ∧ ∀ j, G a w j → ν a w ≤ j := by
    intro a w hI
    have := (hmin a w hI).choose_spec
    simp only [ν, dif_pos hI]
    exact this
  refine wp_loop I ν (h0 a w st) fun a w hI => ?_
  obtain ⟨⟨x, hx, hs, hk⟩, _⟩ := hν a w hI
  refine Code.wp_mono (fun e a' w' q => ?_) (h x hx a w hs)
  cases e with
  | normal =>
    obtain ⟨y, hy, hlt, hsy⟩ := q
    refine ⟨⟨y, hy, hsy⟩, ?_⟩
    have := (hν a' w' ⟨y, hy, hsy⟩).2 (μ y) ⟨y, hy, hsy, rfl⟩
    omega
  | _ => exact q

end
end Go.SL
