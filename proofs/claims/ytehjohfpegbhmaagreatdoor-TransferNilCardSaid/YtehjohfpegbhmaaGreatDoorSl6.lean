/- A small logic for walks: rows that grow, and strings out of them. -/
import Derived.Test.YtehjohfpegbhmaaGreatDoorSl5
import Derived.Deep.AppendSrc
import Derived.Lib.Builder
namespace Go.SL
open Go.RowKit

section
variable {P : Program}

/-- not nil, and no room at all: that no row of ours is that is read by unsafe.SliceData -/
def okV : Value → Prop
  | .slice (some _) _ 0 => False
  | _ => True

theorem okV_new {c : Nat} {a : Addr} (n : Nat) (h : 0 < c) : okV (.slice (some a) n c) := by
  cases c with
  | zero => omega
  | succ c => trivial

theorem append_row (w : World) (t tx ty e : TypeId) (i : TypeInfo) (z : Value) (ht : P.underlying t = some (.slice e)) (hi : P.info? e = some i) (hz : i.zero = some z) (hzs : z.cells.size = i.size) (hpos : 0 < i.size)
    (v : Value) (n : Nat) (xs : List Value) (hown : w.ownsRowF 0 e i.size v n xs) (x : Value) (m : Nat) (news : List Value) (hs : Src P i.size tx x m news w) (h63 : n + m ≤ maxLen) (hbytes : (n + m) * i.bytes ≤ 140737488355328) :
    ∃ v' w', (Builtin.append_ #[t, tx] ty #[v, x]).run P w = .ok v' w' ∧ w'.ownsRowF 0 e i.size v' (n + m) (xs ++ news) ∧ w.grownBy w' v.ownBlock ∧ (∀ k, v'.ownBlock = some k → v.ownBlock = some k ∨ w.heap.size ≤ k) ∧ ((v' = .slice none 0 0 ↔ v = .slice none 0 0 ∧ m = 0) ∧ (okV v → okV v')) := by
  have hsmall : n + m ≤ 9223372036854775807 := by simp only [maxLen] at h63; omega
  have hxl : xs.length = n * i.size := hown.1
  have hlen : (xs ++ news).length = (n + m) * i.size := by rw [List.length_append, hxl, hs.newsLen, Nat.add_mul]
  -- a new row
  have hnew : ∀ (base : Option Addr) (cap : Nat), (Builtin.firstCells i.size n (.slice base n cap)).run P w.drew = .ok xs.toArray w.drew → cap < n + m →
      ∃ w', (Builtin.append_ #[t, tx] ty #[.slice base n cap, x]).run P w = .ok (.slice (some ⟨w.heap.size, 0, none⟩) (n + m) (grownCap w (n + m) cap e)) w' ∧ w'.ownsRowF 0 e i.size (.slice (some ⟨w.heap.size, 0, none⟩) (n + m) (grownCap w (n + m) cap e)) (n + m) (xs ++ news) ∧ ∀ row, w.grownBy w' row := by
    intro base cap hold hg
    have hr := run_append_grow_src w t tx ty e i z ht hi hz base n cap xs hold x m news hs hg (by omega) (growslice_fits (by omega) (by omega))
    have hge := grownCap_ge w (n + m) cap e
    have hcm2 : grownCap w (n + m) cap e ≤ maxLen := grownCap_le_maxLen w (n + m) cap e h63
    refine ⟨_, hr, ⟨hlen, .inr ⟨w.heap.size, _, _, (0, 0), rfl, Nat.zero_le _, heap_alloc_new w.drew _, Nat.zero_le _, hge, hcm2, ?_, ?_⟩⟩, fun row => ⟨rfl, rfl, rfl, by simp, fun k hk _ => by first | exact heap_alloc_old w.drew _ hk | exact heap_alloc_old w.drew _ k hk⟩⟩
    · simp only [Array.size_append, List.size_toArray, size_zeroCells, hzs, hlen]
      rw [← Nat.add_mul]
      congr 1
      omega
    · simp only [Array.toList_append, ← hlen]
      exact List.take_left
  rcases hown.2 with ⟨rfl, rfl⟩ | ⟨g, cap, cur, fz, rfl, hbg, hg, hfz, hnc, hcm, hcs, htake⟩
  · by_cases hm : m = 0
    · subst hm
      have hx0 : xs = [] := List.eq_nil_of_length_eq_zero (by simpa using hxl)
      have hn0 : news = [] := List.eq_nil_of_length_eq_zero (by simpa using hs.newsLen)
      subst hx0 hn0
      refine ⟨.slice none 0 0, w, ?_, World.ownsRowF_nil _ _ _ _, ⟨rfl, rfl, rfl, Nat.le_refl _, fun _ _ _ => rfl⟩, by simp [Value.ownBlock], by simp, fun h => h⟩
      have hc := hs.cells
      have hl := hs.len
      rcases hs.kind with ⟨e', hk⟩ | hk <;> simp [Builtin.append_, run_underlying ht, run_underlying hk, sizeOf, typeInfo, hi, hl, hc]
    · have hx0 : xs = [] := List.eq_nil_of_length_eq_zero (by simpa using hxl)
      obtain ⟨w', h1, h2, h3⟩ := hnew none 0 (by subst hx0; simp [Builtin.firstCells]) (by omega)
      exact ⟨_, w', h1, h2, h3 _, fun k hk => .inr (by simp [Value.ownBlock] at hk; omega), by simp [hm], fun _ => okV_new _ (by have := grownCap_ge w (0 + m) 0 e; omega)⟩
  · by_cases hroom : n + m ≤ cap
    · have hsz : n * i.size + m * i.size ≤ cur.size := by rw [hcs, ← Nat.add_mul]; exact Nat.mul_le_mul_right _ hroom
      have hst := run_storeCells_atF P g (n * i.size) e fz news 0 cur w hg (by simpa using hfz) (by rw [hs.newsLen]; simpa using hsz) hs.one
      simp only [Nat.add_zero, hs.newsLen] at hst
      have hr : (Builtin.append_ #[t, tx] ty #[.slice (some ⟨g, 0, none⟩) n cap, x]).run P w = .ok (.slice (some ⟨g, 0, none⟩) (n + m) cap) (w.setRow g (cur.toList.take (n * i.size) ++ news ++ cur.toList.drop (n * i.size + m * i.size)).toArray) := by
        rcases hs.kind with ⟨e', hk⟩ | hk <;> simp [Builtin.append_, run_underlying ht, run_underlying hk, sizeOf, typeInfo, hi, hs.len, hroom, hs.cells, Addr.add_lit, hst]
      refine ⟨_, _, hr, ⟨hlen, .inr ⟨g, cap, _, fz, rfl, hbg, setRow_heap w g cur _ e _ hg, ?_, hroom, hcm, ?_, ?_⟩⟩, ⟨rfl, rfl, rfl, by simp, fun k _ hk => setRow_other w g k _ (fun e => hk (by simp [Value.ownBlock, e]))⟩, fun k hk => .inl hk, by simp, fun h => by cases cap with | zero => exact h.elim | succ c => trivial⟩
      · rw [Nat.add_mul]; omega
      · simp only [List.size_toArray, List.length_append, List.length_take, List.length_drop, Array.length_toList, hs.newsLen]
        omega
      · rw [htake, ← hlen]
        exact List.take_left
    · have hold : (Builtin.firstCells i.size n (.slice (some ⟨g, 0, none⟩) n cap)).run P w.drew = .ok xs.toArray w.drew :=
        run_firstCells_some w.drew i.size n ⟨g, 0, none⟩ n cap xs hxl (fun j u hu => by simpa using hown.cells (g := g) rfl j u hu)
      obtain ⟨w', h1, h2, h3⟩ := hnew _ cap hold (by omega)
      exact ⟨_, w', h1, h2, h3 _, fun k hk => .inr (by simp [Value.ownBlock] at hk; omega), by simp, fun _ => okV_new _ (by have := grownCap_ge w (n + m) cap e; omega)⟩
theorem csz_info {t : TypeId} {k : Nat} (h : csz P t = some k) : ∃ i, P.info? t = some i ∧ i.size = k := by
  unfold csz at h
  cases hi : P.info? t with
  | none => simp [hi] at h
  | some i => exact ⟨i, rfl, by simpa [hi] using h⟩

/-- what an element type must be for a row to grow: its size, its bytes, a zero of that size -/
def rowInfo (P : Program) (e : TypeId) : Option (Nat × Nat) :=
  match P.info? e with
  | some i => match i.zero with
    | some z => if z.cells.size = i.size ∧ 0 < i.size then some (i.size, i.bytes) else none
    | none => none
  | none => none

theorem rowInfo_spec {e : TypeId} {sz by' : Nat} (h : rowInfo P e = some (sz, by')) : ∃ i z, P.info? e = some i ∧ i.zero = some z ∧ z.cells.size = i.size ∧ 0 < i.size ∧ i.size = sz ∧ i.bytes = by' := by
  unfold rowInfo at h
  cases hi : P.info? e with
  | none => simp [hi] at h
  | some i =>
    cases hz : i.zero with
    | none => simp [hi, hz] at h
    | some z =>
      simp only [hi, hz] at h
      by_cases hc : z.cells.size = i.size ∧ 0 < i.size
      · rw [if_pos hc] at h
        simp at h
        exact ⟨i, z, rfl, hz, hc.1, hc.2, h.1, h.2⟩
      · rw [if_neg hc] at h; cases h

def bytesV (s : List UInt8) : List Value := s.map fun x => Value.int .u8 x.toNat

theorem byteCells_str (s : List UInt8) : byteCells ⟨s.toArray⟩ = bytesV s := by simp [byteCells, bytesV]
theorem bytesV_length (s : List UInt8) : (bytesV s).length = s.length := by simp [bytesV]
theorem bytesV_append (s t : List UInt8) : bytesV (s ++ t) = bytesV s ++ bytesV t := by simp [bytesV]

variable {n : Nat} {W : Nat → Prop} {w0 : World} {l : List (Nat × Value)} {m : List Res} {ops : Array Oper} {Q : Exit → Act → World → Prop} {rest : List Oper} {o : Oper}

theorem Post.row {w w' : World} {i : Nat} {r r' : Res} (hm : nth m i = some r) (hg : w.grownBy w' r.block) (hr : r'.holds w') (hb : ∀ k, r'.block = some k → r.block = some k ∨ w.heap.size ≤ k) : Post w (blocksOf (selM m [i])) [r'] w' := by
  have hsel : selM m [i] = [r] := by simp [selM, hm]
  rw [hsel]
  refine ⟨⟨hg.os, hg.tape, hg.output, hg.size, fun k hk hn => hg.block k hk fun e => hn ⟨r, by simp, e.symm⟩⟩, ⟨?_, ?_, by simp⟩⟩
  · intro x hx
    have : x = r' := by simpa using hx
    subst this; exact hr
  · intro x hx k hk
    have : x = r' := by simpa using hx
    subst this
    rcases hb k hk with h | h
    · exact .inr ⟨r, by simp, h⟩
    · exact .inl h

/-- append(v, x) onto a row of ours, x whatever yields 'news' -/
theorem Eff.appendG {sl x : Operand} {t tx e : TypeId} {d sz by' k mm : Nat} {v xv : Value} {xs news : List Value} (i : Nat) (js : List Nat) (ho : o.op = .call { callee := .builtin .append, args := #[sl, x], argTypes := #[t, tx] }) (hv : ev l sl = some v) (hx : ev l x = some xv)
    (hm : nth m i = some (.row v e sz k xs)) (ht : P.underlying t = some (.slice e)) (hi : rowInfo P e = some (sz, by')) (hs : ∀ w, Mem W w0 m w → Keeps W w0 w → Src P sz tx xv mm news w)
    (hd : o.dst = some d) (hdn : Nat.ble (d + 1) n = true) (hdj : disj [i] js = true) (hjs : nod js = true) (hb : k + mm ≤ 140737488355328) (hb2 : (k + mm) * by' ≤ 140737488355328) :
    Eff P n W w0 l m o Q Value (fun v' => (v' = .slice none 0 0 ↔ v = .slice none 0 0 ∧ mm = 0) ∧ (okV v → okV v')) (fun v' => (d, v') :: l) (fun v' => .row v' e sz (k + mm) (xs ++ news) :: selM m js) := by
  intro a w K st h
  obtain ⟨inf, z, hi1, hz, hzs, hpos, hsz, hby⟩ := rowInfo_spec hi
  subst hsz hby
  have hown : w.ownsRowF 0 e inf.size v k xs := by
    rw [nth_eq] at hm
    exact st.mem.holds _ (List.mem_of_getElem? hm)
  obtain ⟨v', w', h1, h2, h3, h4, h5⟩ := append_row w t tx o.type e inf z ht hi1 hz hzs hpos v k xs hown xv mm news (hs w st.mem st.keeps) (by unfold maxLen; omega) hb2
  have hr : (execOp a.eval o).run P w = .ok (.value v') w' := by
    simp [execOp, ho, resolve, invoke, builtin, st.has.ev hv, st.has.ev hx, h1]
  unfold Oper.wp
  rw [hr, Oper.upon_value, hd]
  have hp : Post w (blocksOf (selM m [i])) [.row v' e inf.size (k + mm) (xs ++ news)] w' := Post.row hm h3 h2 h4
  exact h v' h5 _ _ ⟨st.has.put _ hdn, by simpa using st.mem.after st.keeps.size hdj hjs hp, st.keeps.after st.mem hp⟩

/-- append(buf, s...) -/
theorem Eff.appendS {sl x : Operand} {t tx e : TypeId} {d k : Nat} {v : Value} {xs : List Value} {s : List UInt8} (i : Nat) (js : List Nat) (ho : o.op = .call { callee := .builtin .append, args := #[sl, x], argTypes := #[t, tx] }) (hv : ev l sl = some v) (hx : ev l x = some (str s))
    (hm : nth m i = some (.row v e 1 k xs)) (ht : P.underlying t = some (.slice e)) (htx : P.underlying tx = some .string) (hi : rowInfo P e = some (1, 1))
    (hd : o.dst = some d) (hdn : Nat.ble (d + 1) n = true) (hdj : disj [i] js = true) (hjs : nod js = true) (hb : k + s.length ≤ 140737488355328) :
    Eff P n W w0 l m o Q Value (fun v' => (v' = .slice none 0 0 ↔ v = .slice none 0 0 ∧ s.length = 0) ∧ (okV v → okV v')) (fun v' => (d, v') :: l) (fun v' => .row v' e 1 (k + s.length) (xs ++ bytesV s) :: selM m js) := by
  have hs : ∀ w, Mem W w0 m w → Keeps W w0 w → Src P 1 tx (str s) s.length (bytesV s) w := fun w _ _ => by
    have := Src.ofString (P := P) w htx (⟨s.toArray⟩ : ByteArray)
    rwa [byteCells_str, str_size] at this
  exact Eff.appendG i js ho hv hx hm ht hi hs hd hdn hdj hjs hb (by omega)

/-- an owned row's value is a slice of its length -/
theorem row_shape {w : World} {v : Value} {e : TypeId} {sz k : Nat} {xs : List Value} (h : w.ownsRowF 0 e sz v k xs) : ∃ p c, v = .slice p k c := by
  rcases h.2 with ⟨rfl, rfl⟩ | ⟨g, cap, cur, fz, rfl, _⟩
  · exact ⟨_, _, rfl⟩
  · exact ⟨_, _, rfl⟩

/-- to know that a row's value is a slice -/
theorem Ok.rowShape {K : Act → World → Prop} (i : Nat) {v : Value} {e : TypeId} {sz k : Nat} {xs : List Value} (hm : nth m i = some (.row v e sz k xs)) (h : (∃ p c, v = .slice p k c) → xs.length = k * sz → k ≤ maxLen → Ok n W w0 l m K) : Ok n W w0 l m K := fun a w st => by
  have hown : w.ownsRowF 0 e sz v k xs := by rw [nth_eq] at hm; exact st.mem.holds _ (List.mem_of_getElem? hm)
  refine h (row_shape hown) hown.1 ?_ a w st
  rcases hown.2 with ⟨_, rfl⟩ | ⟨g, cap, cur, fz, _, _, _, _, h1, h2, _⟩
  · exact Nat.zero_le _
  · omega
/-! ### unsafe: a Builder's string -/
theorem Pure.sliceData {x : Operand} {p : Option Addr} {k c : Nat} {ts : Array TypeId} (ho : o.op = .call { callee := .builtin .unsafeSliceData, args := #[x], argTypes := ts }) (hx : ev l x = some (.slice p k c)) (hok : okV (.slice p k c)) : Pure P n W w0 l m o (.pointer p) :=
  fun a w st => by
    cases p with
    | none => simp [execOp, ho, resolve, invoke, builtin, st.has.ev hx, Lib.run_unsafeSliceData_nil]
    | some q =>
      have hc : c ≠ 0 := by cases c with
        | zero => exact hok.elim
        | succ c => omega
      simp [execOp, ho, resolve, invoke, builtin, st.has.ev hx, Lib.run_unsafeSliceData_row w _ _ q k c hc]

theorem Eff.unsafeString {x y : Operand} {p : Option Addr} {k c : Nat} {tp ti e : TypeId} {d : Nat} {s : List UInt8} (i : Nat) (js : List Nat) (ho : o.op = .call { callee := .builtin .unsafeString, args := #[x, y], argTypes := #[tp, ti] }) (hx : ev l x = some (.pointer p)) (hy : ev l y = some (.int .i64 s.length))
    (hm : nth m i = some (.row (.slice p k c) e 1 s.length (bytesV s))) (htp : P.underlying tp = some (.pointer e)) (hce : P.cellsOf e = 1) (hd : o.dst = some d) (hdn : Nat.ble (d + 1) n = true) (hdj : disj [i] js = true) (hjs : nod js = true) :
    Eff P n W w0 l m o Q Unit (fun _ => True) (fun _ => (d, str s) :: l) (fun _ => .row (.slice p k c) e 1 s.length (bytesV s) :: selM m js) := by
  intro a w K st h
  have hown : w.ownsRowF 0 e 1 (.slice p k c) s.length (bytesV s) := by
    rw [nth_eq] at hm
    exact st.mem.holds _ (List.mem_of_getElem? hm)
  have hrun : ∃ w', (Builtin.unsafeString_ #[tp, ti] o.type #[.pointer p, .int .i64 s.length]).run P w = .ok (str s) w' ∧ w'.ownsRowF 0 e 1 (.slice p k c) s.length (bytesV s) ∧ w.grownBy w' (Value.slice p k c).ownBlock := by
    by_cases h0 : s = []
    · subst h0
      exact ⟨w, Lib.run_unsafeString_none (P := P) w tp ti o.type p, hown, ⟨rfl, rfl, rfl, Nat.le_refl _, fun _ _ _ => rfl⟩⟩
    · have hl0 : s.length ≠ 0 := by simpa using h0
      rcases hown.2 with ⟨_, hz⟩ | ⟨g, cap, cur, fz, hv, hbg, hg, hfz, hnc, hcm, hcs, htake⟩
      · exact absurd hz hl0
      · simp only [Value.slice.injEq] at hv
        obtain ⟨rfl, rfl, rfl⟩ := hv
        have hcells := hown.cells (g := g) rfl
        refine ⟨_, Lib.run_unsafeString_row w tp ti o.type e htp hce g cur.size (by simp [World.shape?, hg]) s h0 (by omega) (by unfold maxLen at hcm; omega) (fun j x hj => hcells j _ (by simp [bytesV, hj])), ⟨hown.1, .inr ?_⟩, ?_⟩
        · unfold World.freeze
          rw [if_neg hl0]
          refine ⟨g, c, cur, (if fz.1 == fz.2 then (0, 0 + s.length) else (min fz.1 0, max fz.2 (0 + s.length))), rfl, hbg, ?_, ?_, hnc, hcm, hcs, htake⟩
          · obtain ⟨lo, hi⟩ := fz
            simp [Array.getElem?_modify, hg]
          · split
            · simp
            · simp only; omega
        · unfold World.freeze
          rw [if_neg hl0]
          refine ⟨rfl, rfl, rfl, by simp, fun j hj hne => ?_⟩
          simp only [Array.getElem?_modify]
          rw [if_neg (fun e => hne (by simp [Value.ownBlock, e]))]
  obtain ⟨w', h1, h2, h3⟩ := hrun
  have hr : (execOp a.eval o).run P w = .ok (.value (str s)) w' := by
    simp [execOp, ho, resolve, invoke, builtin, st.has.ev hx, st.has.ev hy, h1]
  unfold Oper.wp
  rw [hr, Oper.upon_value, hd]
  have hp : Post w (blocksOf (selM m [i])) [.row (.slice p k c) e 1 s.length (bytesV s)] w' := Post.row hm h3 h2 (fun k hk => .inl hk)
  exact h () trivial _ _ ⟨st.has.put _ hdn, by simpa using st.mem.after st.keeps.size hdj hjs hp, st.keeps.after st.mem hp⟩

/-! ### pointers one with the other; through unsafe.Pointer and back -/
theorem run_equalIn_ptr_self {t e : TypeId} {k : Nat} (ht : P.underlying t = some (.pointer e)) (hk : csz P e = some k) (d : Nat) (a : Addr) (w : World) : (Op.equalIn (d + 1) t (.pointer (some a)) (.pointer (some a))).run P w = .ok true w := by
  simp [Op.equalIn, run_underlying ht, run_sizeOf hk, sameAddr]

theorem Pure.neSelf {x y : Operand} {t t' e : TypeId} {a : Addr} {k : Nat} (ho : o.op = .binOp .neq t x y t') (hx : ev l x = some (.pointer (some a))) (hy : ev l y = some (.pointer (some a))) (ht : P.underlying t = some (.pointer e)) (hk : csz P e = some k) : Pure P n W w0 l m o (.bool false) :=
  fun b w st => by
    have h1 : (Op.equal t (.pointer (some a)) (.pointer (some a))).run P w = .ok true w := run_equalIn_ptr_self ht hk 9999 a w
    have h2 : (binOp .neq t (.pointer (some a)) (.pointer (some a))).run P w = .ok (.bool false) w := by
      simp only [binOp]
      simp [h1]
    simp [execOp, ho, st.has.ev hx, st.has.ev hy, eqGuard, h2]

theorem Pure.toUnsafe {x : Operand} {s t e T : TypeId} {b off k : Nat} {cs : Array Value} {fz : Nat × Nat} (i : Nat) (ho : o.op = .convert s t x) (hx : ev l x = some (.pointer (some ⟨b, off, none⟩))) (hs : P.underlying s = some (.pointer e)) (ht : P.underlying t = some .unsafePointer) (hk : csz P e = some (k + 1))
    (hm : nth m i = some (.blk b (.cells cs T fz))) (hoff : off < cs.size) : Pure P n W w0 l m o (.pointer (some ⟨b, off, none⟩)) :=
  fun a w st => by
    obtain ⟨j, hj, hjs⟩ := csz_info hk
    have hb := st.mem.blk hm
    have := Lib.run_to_unsafe (P := P) w (src := s) (dst := t) ⟨b, off, none⟩ hs ht hj (by omega) (e := T) (cells := cs.size) (by simp [World.shape?, hb]) hoff
    simp [execOp, ho, st.has.ev hx, this]

theorem Pure.fromUnsafe {x : Operand} {s t e T : TypeId} {b off k : Nat} {cs : Array Value} {fz : Nat × Nat} (i : Nat) (ho : o.op = .convert s t x) (hx : ev l x = some (.pointer (some ⟨b, off, none⟩))) (hs : P.underlying s = some .unsafePointer) (ht : P.underlying t = some (.pointer e)) (hk : csz P e = some k)
    (hm : nth m i = some (.blk b (.cells cs T fz))) (hl : liesAt P P.depth T (cs.size / P.cellsOf T) off e 1 = true) : Pure P n W w0 l m o (.pointer (some ⟨b, off, none⟩)) :=
  fun a w st => by
    obtain ⟨j, hj, hjs⟩ := csz_info hk
    have hb := st.mem.blk hm
    have := Lib.run_from_unsafe (P := P) w (src := s) (dst := t) ⟨b, off, none⟩ hs ht hj (e := T) (cells := cs.size) (by simp [World.shape?, hb]) hl
    simp [execOp, ho, st.has.ev hx, this]

theorem Pure.noEscape {x : Operand} {f : FuncId} {fn : Func} {v : Value} {ts : Array TypeId} (ho : o.op = .call { callee := .value (.func f), args := #[x], argTypes := ts }) (hx : ev l x = some v) (hf : P.funcs[f]? = some fn) (hname : (fn.name == "runtime.NumGoroutine") = false)
    (hb : fn.body.isNone = true) (hn : Extern.findNext fn = none) (he : Extern.find fn = some Extern.AbiNoEscape.same) : Pure P n W w0 l m o v :=
  fun a w st => by
    have := run_callFunc_extern hf hname hb hn he #[v] w
    rw [Lib.run_noEscape] at this
    have h2 : a.eval (.func f) = .func (.func f) #[] #[] := rfl
    simp only [Result.andThen_ok] at this
    simp [execOp, ho, resolve, h2, Deferred.ofValue, invoke, st.has.ev hx, this]

/-! ### parts of a block known by what stands before and behind them -/
theorem at1_pre (pre r : List Seg) (k : Nat) : at1 (pre ++ r) (width pre + k) = at1 r k := by
  rw [at1_eq, at1_eq, flat_append, Array.getElem?_append_right (by rw [flat_size]; omega), flat_size]
  congr 1
  omega

theorem dropS_zero (l : List Seg) : dropS l 0 = some l := by cases l <;> rfl

theorem spl_pre : ∀ (pre r : List Seg) (k : Nat) (q : List Seg) (z : Nat), pre.all (fun s => Nat.ble 1 s.n) = true → spl (pre ++ r) (width pre + k) q z = (spl r k q z).map (pre ++ ·)
  | [], r, k, q, z, _ => by simp [width]
  | s :: pre, r, k, q, z, h => by
    simp only [List.all_cons, Bool.and_eq_true] at h
    have h1 : 1 ≤ s.n := Nat.le_of_ble_eq_true h.1
    have ih := spl_pre pre r k q z h.2
    obtain ⟨j, hj⟩ : ∃ j, width (s :: pre) + k = j + 1 := ⟨width (s :: pre) + k - 1, by simp only [width]; omega⟩
    have hb : Nat.ble s.n (j + 1) = true := Nat.ble_eq_true_of_le (by rw [← hj]; simp only [width]; omega)
    have hj2 : j + 1 - s.n = width pre + k := by rw [← hj]; simp only [width]; omega
    rw [hj, List.cons_append]
    conv => lhs; unfold spl
    rw [hb, hj2, ih]
    simp only [cond_true]
    cases spl r k q z <;> rfl

theorem Mem.own {w : World} (h : Mem W w0 m w) : Mem (blocksOf m) w m w := ⟨h.holds, fun r hr k hk => .inr ⟨r, hr, hk⟩, h.apart⟩

end
end Go.SL
