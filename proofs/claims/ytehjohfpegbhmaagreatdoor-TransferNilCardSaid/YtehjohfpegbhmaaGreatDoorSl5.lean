/- A small logic for walks: results, joins, composite literals, division. -/
import Derived.Test.YtehjohfpegbhmaaGreatDoorSl4
namespace Go.SL
open Go.RowKit

section
variable {P : Program} {n : Nat} {W : Nat → Prop} {w0 : World} {l : List (Nat × Value)} {m : List Res} {ops : Array Oper} {Q : Exit → Act → World → Prop} {rest : List Oper} {o : Oper}

/-! ### Results -/
inductive RV (P : Program) (l : List (Nat × Value)) (m : List Res) : ResultVar → Value → Prop where
  | tmp {t : Tmp} {v : Value} (h : look l t = some v) : RV P l m (.tmp t) v
  | cellA (i : Nat) {t : Tmp} {ty : TypeId} {b k : Nat} {ss q : List Seg} {T : TypeId} {fz : Nat × Nat} (h : look l t = some (.pointer (some ⟨b, 0, none⟩))) (hm : nth m i = some (.blk b (.cells (flat ss) T fz))) (ht : aggB P ty = some true) (hc : cut ss 0 k = some q) (hk : csz P ty = some k) : RV P l m (.cell t ty) (.agg (flat q))
  | cell1 (i : Nat) {t : Tmp} {ty : TypeId} {b : Nat} {ss : List Seg} {T : TypeId} {fz : Nat × Nat} {v : Value} (h : look l t = some (.pointer (some ⟨b, 0, none⟩))) (hm : nth m i = some (.blk b (.cells (flat ss) T fz))) (hv : at1 ss 0 = some v) (ht : aggB P ty = some false) : RV P l m (.cell t ty) v

inductive RVs (P : Program) (l : List (Nat × Value)) (m : List Res) : List ResultVar → List Value → Prop where
  | nil : RVs P l m [] []
  | cons {r : ResultVar} {v : Value} {rs : List ResultVar} {vs : List Value} (h : RV P l m r v) (t : RVs P l m rs vs) : RVs P l m (r :: rs) (v :: vs)

def retv : List Value → Value
  | [v] => v
  | vs => .tuple vs.toArray

def rvSem (tmps : Array Value) : ResultVar → Sem Value
  | .tmp t => pure (tmps.getD t undef)
  | .cell a t => do loadVar t (← asAddr (tmps.getD a undef))

theorem run_rv {r : ResultVar} {v : Value} (h : RV P l m r v) {a : Act} {w : World} (st : St n W w0 l m a w) : (rvSem a.tmps r).run P w = .ok v w := by
  cases h with
  | tmp h => simp [rvSem, st.has.get _ _ h]
  | cellA i h hm ht hc hk =>
    obtain ⟨h1, h2, h3⟩ := cut_spec _ 0 _ _ hc
    rename_i t ty b k ss q T fz
    have hb := st.mem.blk hm
    have hl : (loadCells ⟨b, 0, none⟩ k).run P w = .ok (flat q) w := by
      have := run_loadCells_list (P := P) w ⟨b, 0, none⟩ (flat q).toList (fun j v hj => by
        rw [Addr.add_mid, Lib.cell_of_heap hb]
        rw [← h1] at hj
        simp only [Nat.zero_add] at hj ⊢
        rw [Array.toList_extract, List.extract_eq_take_drop, List.drop_zero, List.getElem?_take] at hj
        split at hj
        · simpa using hj
        · exact absurd hj (by simp))
      rw [Array.length_toList, flat_size, h2] at this
      simpa using this
    simp [rvSem, st.has.get _ _ h, asAddr, loadVar, run_isAgg ht, run_sizeOf hk, hl]
  | cell1 i h hm hv ht =>
    have hb := st.mem.blk hm
    rw [at1_eq] at hv
    have hc := Lib.cell_of_heap hb 0
    rw [hv] at hc
    simp [rvSem, st.has.get _ _ h, asAddr, loadVar, run_isAgg ht, load, Sem.run, hc]

theorem run_rvs {a : Act} {w : World} (st : St n W w0 l m a w) : ∀ {rs : List ResultVar} {vs : List Value}, RVs P l m rs vs → (rs.mapM (rvSem a.tmps)).run P w = .ok vs w
  | _, _, .nil => by simp
  | _, _, .cons h t => by
    have h1 := run_rv h st
    have h2 := run_rvs st t
    rw [List.mapM_cons, Sem.run_bind, h1]
    simp only [Result.andThen_ok]
    rw [Sem.run_bind, h2]
    simp

theorem results_eq (fn : Func) (tmps : Array Value) : results fn tmps = (do let vs ← fn.results.mapM (rvSem tmps); pure (if h : vs.size = 1 then vs[0] else .tuple vs)) := by
  unfold results
  congr 1

theorem resL {fn : Func} {rs : List ResultVar} {vs : List Value} {v : Value} (h : fn.results = rs.toArray) (hr : RVs P l m rs vs) (hv : retv vs = v) : ∀ a w, St n W w0 l m a w → (results fn a.tmps).run P w = .ok v w := by
  intro a w st
  subst hv
  rw [results_eq, h, Array.mapM_eq_mapM_toList]
  have h1 := run_rvs st hr
  simp only [Sem.run_bind, Sem.run_map, h1, Result.andThen_ok]
  match vs with
  | [] => simp [retv]
  | [v] => simp [retv]
  | a :: b :: r => simp [retv]

/-! ### Known truths -/
theorem Ok.condT' {c : Operand} {x y : Code} {t : Bool} (hc : ev l c = some (.bool t)) (ht : t = true) (h : Ok n W w0 l m (x.wp P Q)) : Ok n W w0 l m ((Code.cond c x y).wp P Q) := Ok.condT (ht ▸ hc) h
theorem Ok.condF' {c : Operand} {x y : Code} {t : Bool} (hc : ev l c = some (.bool t)) (ht : t = false) (h : Ok n W w0 l m (y.wp P Q)) : Ok n W w0 l m ((Code.cond c x y).wp P Q) := Ok.condF (ht ▸ hc) h
theorem Ok.setT {K : Act → World → Prop} {d : Nat} {c : Bool} (hc : look l d = some (.bool c)) (ht : c = true) (h : Ok n W w0 ((d, .bool true) :: l) m K) : Ok n W w0 l m K := fun a w st => h a w ⟨st.has.dup (ht ▸ hc), st.mem, st.keeps⟩
theorem Ok.setF {K : Act → World → Prop} {d : Nat} {c : Bool} (hc : look l d = some (.bool c)) (ht : c = false) (h : Ok n W w0 ((d, .bool false) :: l) m K) : Ok n W w0 l m K := fun a w st => h a w ⟨st.has.dup (ht ▸ hc), st.mem, st.keeps⟩
theorem OkS.setT {F : Act → Prop} {w : World} {d : Nat} {c : Bool} (hc : look l d = some (.bool c)) (ht : c = true) (h : OkS n W w0 ((d, .bool true) :: l) m w F) : OkS n W w0 l m w F := fun a st => h a ⟨st.has.dup (ht ▸ hc), st.mem, st.keeps⟩
theorem OkS.setF {F : Act → Prop} {w : World} {d : Nat} {c : Bool} (hc : look l d = some (.bool c)) (ht : c = false) (h : OkS n W w0 ((d, .bool false) :: l) m w F) : OkS n W w0 l m w F := fun a st => h a ⟨st.has.dup (ht ▸ hc), st.mem, st.keeps⟩
theorem OkH.setT {mS : List Res} {fuel : Nat} {listed : List Bool} {d : Nat} {c : Bool} (hc : look l d = some (.bool c)) (ht : c = true) (h : OkH P n W w0 mS ops Q fuel listed ((d, .bool true) :: l) m) : OkH P n W w0 mS ops Q fuel listed l m := fun a w st => h a w ⟨st.has.dup (ht ▸ hc), st.mem, st.keeps⟩
theorem OkH.setF {mS : List Res} {fuel : Nat} {listed : List Bool} {d : Nat} {c : Bool} (hc : look l d = some (.bool c)) (ht : c = false) (h : OkH P n W w0 mS ops Q fuel listed ((d, .bool false) :: l) m) : OkH P n W w0 mS ops Q fuel listed l m := fun a w st => h a w ⟨st.has.dup (ht ▸ hc), st.mem, st.keeps⟩

/-- Ways that meet again. -/
theorem Ok.join {c : Code} {X : Type} (φ : X → Prop) (L : X → List (Nat × Value)) (M : X → List Res) (h : ∀ x, φ x → Ok n W w0 (L x) (M x) (Q .normal)) (h2 : (∀ x, φ x → Ok n W w0 (L x) (M x) (Q .normal)) → Ok n W w0 l m (c.wp P Q)) : Ok n W w0 l m (c.wp P Q) := h2 h

/-- the state, when the slots are spelt otherwise -/
theorem Ok.to {K : Act → World → Prop} {l' : List (Nat × Value)} {m' : List Res} (is : List Nat) (hs : subL l l') (hm : selM m is = m') (ha : nod is = true) (h : Ok n W w0 l' m' K) : Ok n W w0 l m K := Ok.weak l' is hs hm ha h

theorem Ok.via {K : Act → World → Prop} {l' : List (Nat × Value)} {m' : List Res} (h : Ok n W w0 l' m' K) (is : List Nat) (hs : subL l l') (hm : selM m is = m') (ha : nod is = true) : Ok n W w0 l m K := Ok.weak l' is hs hm ha h

theorem St.to {a : Act} {w : World} (st : St n W w0 l m a w) {l' : List (Nat × Value)} {m' : List Res} (is : List Nat) (hs : subL l l') (hm : selM m is = m') (ha : nod is = true) : St n W w0 l' m' a w :=
  ⟨st.has.sub hs, hm ▸ st.mem.sel is ha, st.keeps⟩

/-- the end of a loop's round -/
theorem Ok.round {X : Type} {φ : X → Prop} {L : X → List (Nat × Value)} {M : X → List Res} {μ : X → Nat} {k : Nat} (y : X) (is : List Nat) (hy : φ y) (hμ : μ y < k) (hs : subL l (L y)) (hm : selM m is = M y) (ha : nod is = true) :
    Ok n W w0 l m (fun a w => ∃ y, φ y ∧ μ y < k ∧ St n W w0 (L y) (M y) a w) := fun _ _ st => ⟨y, hy, hμ, st.to is hs hm ha⟩

theorem Eff.ofPure {d : Nat} {v : Value} (hd : o.dst = some d) (hdn : Nat.ble (d + 1) n = true) (hp : Pure P n W w0 l m o v) :
    Eff P n W w0 l m o Q Unit (fun _ => True) (fun _ => (d, v) :: l) (fun _ => m) := by
  intro a w K st h
  unfold Oper.wp
  rw [hp a w st, Oper.upon_value, hd]
  exact h () trivial _ _ (st.put v hdn)

theorem Eff.at {X : Type} {φ : X → Prop} {val : X → Value} {M : X → List Res} {d : Nat} (hd : o.dst = some d) (h : Eff P n W w0 l m o Q X φ (fun x => putD o.dst (val x) l) M) : Eff P n W w0 l m o Q X φ (fun x => (d, val x) :: l) M := by
  rw [hd] at h; exact h

theorem OkH.effG {mS : List Res} {fuel : Nat} {listed : List Bool} (i : Nat) {oi : Oper} {X : Type} {φ : X → Prop} {l' : X → List (Nat × Value)} {m' : X → List Res} {listed' : List Bool} {g dg : Nat} {want c : Bool} {og : Oper} (hi : ops[i]? = some oi) (hg : oi.guard = some (g, want)) (ho : ops[g]? = some og) (hgd : og.dst = some dg) (hc : look l dg = some (.bool c)) (hcw : (c == want) = true)
    (hr : Region.ready .any ops listed.toArray = [i]) (hl : setB listed i = listed')
    (is : List Nat) (hsel : ∀ x, selM (m' x) is = mS) (hasc : nod is = true) (he : Eff P n W w0 l m oi Q X φ l' m')
    (h : ∀ x, φ x → OkH P n W w0 mS ops Q fuel listed' (l' x) (m' x)) : OkH P n W w0 mS ops Q (fuel + 1) listed l m := by
  intro a w st
  refine wpAnyH_all hr (by simp) fun j hj => ?_
  have : j = i := by simpa using hj
  subst this
  unfold wpOp
  simp only [hi]
  rw [wanted_of hg ho hgd hc st, if_pos hcw]
  refine .inl (he a w _ st fun x hx a' w' st' => ⟨⟨hsel x ▸ st'.mem.sel is hasc, st'.keeps⟩, ?_⟩)
  rw [← setB_eq, hl]
  exact h x hx a' w' st'

/-! ### Composite literals -/
inductive VS : Value → List Seg → Prop where
  | one {v : Value} (h : v.oneCell' = true) : VS v [Seg.one v h]
  | agg {q : List Seg} : VS (.agg (flat q)) q

theorem VS.cells {v : Value} {q : List Seg} (h : VS v q) : v.cells = flat q := by
  cases h with
  | one h => cases v <;> simp [Value.oneCell', Value.cells, flat, Seg.cs] at h ⊢
  | agg => rfl

inductive VSs : List (Nat × Value) → List (Nat × List Seg) → Prop where
  | nil : VSs [] []
  | cons {i : Nat} {v : Value} {q : List Seg} {vs : List (Nat × Value)} {qs : List (Nat × List Seg)} (h : VS v q) (r : VSs vs qs) : VSs ((i, v) :: vs) ((i, q) :: qs)

def evp (l : List (Nat × Value)) : List (Nat × Operand) → Option (List (Nat × Value))
  | [] => some []
  | p :: r => match ev l p.2, evp l r with
    | some v, some vs => some ((p.1, v) :: vs)
    | _, _ => none

theorem Has.evp {a : Act} (h : Has n l a) : ∀ {ps : List (Nat × Operand)} {vs : List (Nat × Value)}, evp l ps = some vs → ps.map (fun x => (x.1, a.eval x.2)) = vs
  | [], vs, e => by simp [SL.evp] at e; simp [← e]
  | x :: xs, vs, e => by
    unfold SL.evp at e
    cases h1 : SL.ev l x.2 with
    | none => simp [h1] at e
    | some v =>
      cases h2 : SL.evp l xs with
      | none => simp [h1, h2] at e
      | some ws =>
        simp only [h1, h2, Option.some.injEq] at e
        subst e
        simp [h.ev h1, h.evp h2]

def plc (P : Program) (t : TypeId) : Option (List (Nat × Nat)) :=
  match P.underlying t with
  | some (.struct fields) => fields.toList.mapM (fun f => (P.info? f.type).map fun i => (f.offset, i.size))
  | some (.array k e) => (P.info? e).map fun i => (List.range k).map fun j => (j * i.size, i.size)
  | _ => none

def fillS (pl : List (Nat × Nat)) : List Seg → List (Nat × List Seg) → Option (List Seg)
  | z, [] => some z
  | z, p :: r => match nth pl p.1 with
    | some (off, k) => bif Nat.beq (width p.2) k then
        match spl z off p.2 k with
        | some z' => fillS pl z' r
        | none => none
      else none
    | none => none

theorem foldl_zipIdx_get (off : Nat) : ∀ (vs : List Value) (k : Nat) (cells : Array Value) (j : Nat),
    ((vs.zipIdx k).foldl (fun cs (x : Value × Nat) => cs.setIfInBounds (off + x.2) x.1) cells)[j]? =
      if off + k ≤ j ∧ j < off + k + vs.length ∧ j < cells.size then vs[j - (off + k)]? else cells[j]?
  | [], k, cells, j => by
    simp
    intro h1 h2 h3
    omega
  | v :: vs, k, cells, j => by
    rw [List.zipIdx_cons, List.foldl_cons, foldl_zipIdx_get off vs (k + 1)]
    simp only [List.length_cons, Array.size_setIfInBounds]
    by_cases h1 : off + k ≤ j ∧ j < off + k + (vs.length + 1) ∧ j < cells.size
    · rw [if_pos h1]
      by_cases h2 : j = off + k
      · subst h2
        rw [if_neg (by omega)]
        simp [h1.2.2]
      · rw [if_pos (by omega)]
        rw [show j - (off + k) = (j - (off + (k + 1))) + 1 by omega]
        simp
    · rw [if_neg h1, if_neg (by omega)]
      by_cases h2 : off + k = j
      · subst h2
        have : ¬ off + k < cells.size := by omega
        simp [this]
      · rw [Array.getElem?_setIfInBounds_ne h2]

theorem foldl_zipIdx (off : Nat) (vs cells : Array Value) (h : off + vs.size ≤ cells.size) :
    vs.zipIdx.foldl (fun cs (x : Value × Nat) => cs.setIfInBounds (off + x.2) x.1) cells = cells.extract 0 off ++ vs ++ cells.extract (off + vs.size) cells.size := by
  have e : vs.zipIdx.foldl (fun cs (x : Value × Nat) => cs.setIfInBounds (off + x.2) x.1) cells = (vs.toList.zipIdx 0).foldl (fun cs (x : Value × Nat) => cs.setIfInBounds (off + x.2) x.1) cells := by
    rw [← Array.foldl_toList]; simp
  rw [e]
  apply Array.ext_getElem?
  intro j
  rw [foldl_zipIdx_get]
  simp only [Nat.add_zero, Array.length_toList]
  by_cases h1 : j < off
  · rw [if_neg (by omega)]
    rw [Array.getElem?_append_left (by simp; omega), Array.getElem?_append_left (by simp; omega)]
    simp [Array.getElem?_extract]
    intro h2
    omega
  · by_cases h2 : j < off + vs.size
    · rw [if_pos (by omega)]
      rw [Array.getElem?_append_left (by simp; omega), Array.getElem?_append_right (by simp; omega)]
      have : (cells.extract 0 off).size = off := by simp; omega
      rw [this]
      simp
    · rw [if_neg (by omega)]
      rw [Array.getElem?_append_right (by simp; omega)]
      have : (cells.extract 0 off ++ vs).size = off + vs.size := by simp; omega
      rw [this, Array.getElem?_extract]
      by_cases h3 : j < cells.size
      · rw [if_pos (by omega)]
        congr 1
        omega
      · rw [if_neg (by omega)]
        simp
        omega

theorem fill_segs (pl : List (Nat × Nat)) (place : Nat → Option (Nat × Nat)) (hpl : ∀ i p, pl[i]? = some p → place i = some p) : ∀ {vs : List (Nat × Value)} {qs : List (Nat × List Seg)} (_ : VSs vs qs) (z z' : List Seg), fillS pl z qs = some z' → Instr.fill place (flat z) vs = some (flat z')
  | _, _, .nil, z, z', h => by simp [fillS] at h; subst h; simp [Instr.fill]
  | _, _, .cons (i := i) (v := v) (q := q) hv r, z, z', h => by
    unfold fillS at h
    rw [nth_eq] at h
    cases hp : pl[i]? with
    | none => simp [hp] at h
    | some p =>
      obtain ⟨off, k⟩ := p
      simp only [hp] at h
      cases hb : Nat.beq (width q) k with
      | false => simp [hb] at h
      | true =>
        have hw : width q = k := Nat.eq_of_beq_eq_true hb
        simp only [hb, cond_true] at h
        cases hs : spl z off q k with
        | none => simp [hs] at h
        | some z1 =>
          simp only [hs] at h
          obtain ⟨h1, h2⟩ := spl_spec z off k q z1 hs hw
          have hsz : v.cells.size = k := by rw [hv.cells, flat_size, hw]
          unfold Instr.fill
          simp only [hpl i _ hp]
          rw [if_neg (by simp [hsz, flat_size]; omega)]
          have := foldl_zipIdx off v.cells (flat z) (by rw [hsz, flat_size]; exact h1)
          rw [this, hsz, hv.cells, ← h2]
          exact fill_segs pl place hpl r z1 z' h

theorem built_segs {t : TypeId} {vs : List (Nat × Value)} {qs : List (Nat × List Seg)} {pl : List (Nat × Nat)} {zs z' : List Seg} (hq : VSs vs qs) (hp : plc P t = some pl) (hz : zcells P t = some (flat zs)) (hf : fillS pl zs qs = some z') : P.built t vs = some (flat z') := by
  unfold plc at hp
  unfold zcells at hz
  unfold Program.built
  cases hi : P.info? t with
  | none => simp [hi] at hz
  | some it =>
    cases hzz : it.zero with
    | none => simp [hi, hzz] at hz
    | some z =>
      simp [hi, hzz] at hz
      cases hu : P.underlying t with
      | none => simp [hu] at hp
      | some d =>
        cases d <;> simp only [hu] at hp <;> try (simp at hp; done)
        · rename_i k e
          cases he : P.info? e with
          | none => simp [he] at hp
          | some ie =>
            simp only [he, Option.map_some, Option.some.injEq] at hp
            simp only [hzz, he, hz]
            refine fill_segs pl _ (fun i p h => ?_) hq zs z' hf
            rw [← hp, List.getElem?_map] at h
            cases hr : (List.range k)[i]? with
            | none => simp [hr] at h
            | some j =>
              have : j = i := by
                have := List.getElem?_eq_some_iff.1 hr
                obtain ⟨h1, h2⟩ := this
                simpa using h2.symm
              subst this
              simpa [hr] using h
        · simp only [hzz, hp, hz]
          exact fill_segs pl _ (fun i p h => by simpa using h) hq zs z' hf

theorem Pure.build {t : TypeId} {ps : List (Nat × Operand)} {vs : List (Nat × Value)} {qs : List (Nat × List Seg)} {z' : List Seg} (pl : List (Nat × Nat)) (zs : List Seg) (ho : o.op = .build t ps.toArray) (hv : evp l ps = some vs) (hq : VSs vs qs) (hp : plc P t = some pl) (hz : zcells P t = some (flat zs)) (hf : fillS pl zs qs = some z') :
    Pure P n W w0 l m o (.agg (flat z')) := fun a w st => by
  have h1 : (Array.map (fun x : Nat × Operand => (x.1, a.eval x.2)) ps.toArray) = vs.toArray := by rw [List.map_toArray, st.has.evp hv]
  have h2 := run_build (P := P) w t vs.toArray _ (by simpa using built_segs hq hp hz hf)
  simp [execOp, ho, h1, h2]

/-- a literal whose value is closed -/
theorem Pure.buildK {t : TypeId} {ps : List (Nat × Operand)} {vs : List (Nat × Value)} {q : List Seg} (ho : o.op = .build t ps.toArray) (hv : evp l ps = some vs) (hb : P.built t vs = some (flat q)) : Pure P n W w0 l m o (.agg (flat q)) := fun a w st => by
  have h1 : (Array.map (fun x : Nat × Operand => (x.1, a.eval x.2)) ps.toArray) = vs.toArray := by rw [List.map_toArray, st.has.evp hv]
  have h2 := run_build (P := P) w t vs.toArray _ (by simpa using hb)
  simp [execOp, ho, h1, h2]

/-! ### Division -/
theorem Pure.quoI {x y : Operand} {p q : Int} {t t' : TypeId} (ho : o.op = .binOp .quo t x y t') (hx : ev l x = some (.int .i64 p)) (hy : ev l y = some (.int .i64 q)) (h0 : 0 ≤ p) (h1 : p ≤ 9223372036854775807) (h2 : 0 < q) : Pure P n W w0 l m o (.int .i64 (p / q)) :=
  fun a w st => by
    have e1 : p.tdiv q = p / q := Int.tdiv_eq_ediv_of_nonneg h0
    have e2 : 0 ≤ p / q := Int.ediv_nonneg h0 (by omega)
    have e3 : p / q ≤ p := Int.ediv_le_self q h0
    have e4 : ¬ q = 0 := by omega
    simp [execOp, ho, st.has.ev hx, st.has.ev hy, eqGuard, binOp, Op.intDiv, e4, e1, wrap_i64_id (p := p / q) (by omega) (by omega)]

theorem Pure.remI {x y : Operand} {p q : Int} {k : IntKind} {t t' : TypeId} (ho : o.op = .binOp .rem t x y t') (hx : ev l x = some (.int k p)) (hy : ev l y = some (.int k q)) (h0 : 0 ≤ p) (h1 : 0 < q) (_h2 : 0 < q) : Pure P n W w0 l m o (.int k (p % q)) :=
  fun a w st => by
    have e1 : p.tmod q = p % q := Int.tmod_eq_emod_of_nonneg h0
    have e4 : ¬ q = 0 := by omega
    simp [execOp, ho, st.has.ev hx, st.has.ev hy, eqGuard, binOp, Op.intDiv, e4, e1]

end
end Go.SL
