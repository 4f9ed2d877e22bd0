/- A small logic for walks: equality of aggregates, arrays, function values. -/
import Derived.Test.YtehjohfpegbhmaaGreatDoorSl6
import Derived.Stop.BytesEq
namespace Go.SL
open Go.RowKit

section
variable {P : Program} {n : Nat} {W : Nat → Prop} {w0 : World} {l : List (Nat × Value)} {m : List Res} {ops : Array Oper} {Q : Exit → Act → World → Prop} {rest : List Oper} {o : Oper}

instance {n : Nat} : DecidableEq (B n) := fun a b => if h : a.l = b.l then isTrue (B.ext h) else isFalse fun e => h (by rw [e])

theorem flat_seg {n : Nat} (b : B n) : flat [b.seg] = (b.l.map Extern.Stop.cell).toArray := by
  simp [flat, B.seg, Seg.cs, byteA]
  intro a _
  rfl

theorem run_eqlB {t e : TypeId} {k : Nat} (ht : P.underlying t = some (.array k e)) (he : P.underlying e = some (.int .u8)) (hsz : csz P e = some 1) (a b : B k) (w : World) :
    (binOp .eql t (.agg (flat [a.seg])) (.agg (flat [b.seg]))).run P w = .ok (.bool (decide (a = b))) w := by
  rw [flat_seg, flat_seg, run_eql_bytes w t e k ht he (fun w => run_sizeOf hsz w) a.l b.l a.h b.h]
  congr 2
  rw [Bool.eq_iff_iff]
  simp
  exact ⟨fun h => B.ext h, fun h => by rw [h]⟩

theorem run_neqlB {t e : TypeId} {k : Nat} (ht : P.underlying t = some (.array k e)) (he : P.underlying e = some (.int .u8)) (hsz : csz P e = some 1) (a b : B k) (w : World) :
    (binOp .neq t (.agg (flat [a.seg])) (.agg (flat [b.seg]))).run P w = .ok (.bool (!decide (a = b))) w := by
  have h := run_eqlB ht he hsz a b w
  rw [run_eql_struct] at h
  simp only [binOp]
  have h2 : (Op.equal t (.agg (flat [a.seg])) (.agg (flat [b.seg]))).run P w = .ok (decide (a = b)) w := by
    have : Op.equal t (.agg (flat [a.seg])) (.agg (flat [b.seg])) = Op.equalIn 10000 t (.agg (flat [a.seg])) (.agg (flat [b.seg])) := rfl
    rw [this]
    generalize (Op.equalIn 10000 t (.agg (flat [a.seg])) (.agg (flat [b.seg]))).run P w = r at h
    cases r with
    | ok x w' => simp only [Result.andThen_ok, Result.ok.injEq, Value.bool.injEq] at h; rw [h.1, h.2]
    | halt x w' => simp at h
  simp [h2]

theorem Pure.eqB {x y : Operand} {t t' e : TypeId} {k : Nat} {a b : B k} (ho : o.op = .binOp .eql t x y t') (hx : ev l x = some (.agg (flat [a.seg]))) (hy : ev l y = some (.agg (flat [b.seg]))) (ht : P.underlying t = some (.array k e)) (he : P.underlying e = some (.int .u8)) (hsz : csz P e = some 1) (hm : P.eqGuardType P.depth t = false) :
    Pure P n W w0 l m o (.bool (decide (a = b))) :=
  fun c w st => by simp [execOp, ho, st.has.ev hx, st.has.ev hy, run_eqGuard_agg w .eql t _ _ _ _ hm, run_eqlB ht he hsz]
theorem Pure.neB {x y : Operand} {t t' e : TypeId} {k : Nat} {a b : B k} (ho : o.op = .binOp .neq t x y t') (hx : ev l x = some (.agg (flat [a.seg]))) (hy : ev l y = some (.agg (flat [b.seg]))) (ht : P.underlying t = some (.array k e)) (he : P.underlying e = some (.int .u8)) (hsz : csz P e = some 1) (hm : P.eqGuardType P.depth t = false) :
    Pure P n W w0 l m o (.bool (!decide (a = b))) :=
  fun c w st => by simp [execOp, ho, st.has.ev hx, st.has.ev hy, run_eqGuard_agg w .neq t _ _ _ _ hm, run_neqlB ht he hsz]

/-- two aggregates, by what their comparison comes to -/
theorem Pure.eqAgg {x y : Operand} {t t' : TypeId} {xs ys : Array Value} {r : Bool} (ho : o.op = .binOp .eql t x y t') (hx : ev l x = some (.agg xs)) (hy : ev l y = some (.agg ys)) (hm : P.eqGuardType P.depth t = false) (hr : ∀ w, (Op.equalIn 10000 t (.agg xs) (.agg ys)).run P w = .ok r w) :
    Pure P n W w0 l m o (.bool r) :=
  fun c w st => by simp [execOp, ho, st.has.ev hx, st.has.ev hy, run_eqGuard_agg w .eql t _ _ _ _ hm, run_eql_struct, hr]

/-- function values against nil -/
theorem run_equalIn_fn_nil {t : TypeId} {ps rs : Array TypeId} {vr : Bool} (ht : P.underlying t = some (.func ps rs vr)) (d : Nat) (fn : Fn) (a b : Array Value) (w : World) : (Op.equalIn (d + 1) t (.func fn a b) .nilFunc).run P w = .ok false w := by
  simp [Op.equalIn, run_underlying ht]
theorem run_equalIn_nil_nil {t : TypeId} {ps rs : Array TypeId} {vr : Bool} (ht : P.underlying t = some (.func ps rs vr)) (d : Nat) (w : World) : (Op.equalIn (d + 1) t .nilFunc .nilFunc).run P w = .ok true w := by
  simp [Op.equalIn, run_underlying ht]

theorem Pure.eqFnF {x y : Operand} {t t' : TypeId} {ps rs : Array TypeId} {vr : Bool} {fn : Fn} {a b : Array Value} (ho : o.op = .binOp .eql t x y t') (hx : ev l x = some (.func fn a b)) (hy : ev l y = some .nilFunc) (ht : P.underlying t = some (.func ps rs vr)) : Pure P n W w0 l m o (.bool false) :=
  fun c w st => by
    have h1 : (Op.equal t (.func fn a b) .nilFunc).run P w = .ok false w := run_equalIn_fn_nil ht 9999 fn a b w
    have h2 : (binOp .eql t (.func fn a b) .nilFunc).run P w = .ok (.bool false) w := by simp only [binOp]; simp [h1]
    simp [execOp, ho, st.has.ev hx, st.has.ev hy, eqGuard, h2]
theorem Pure.eqFnT {x y : Operand} {t t' : TypeId} {ps rs : Array TypeId} {vr : Bool} (ho : o.op = .binOp .eql t x y t') (hx : ev l x = some .nilFunc) (hy : ev l y = some .nilFunc) (ht : P.underlying t = some (.func ps rs vr)) : Pure P n W w0 l m o (.bool true) :=
  fun c w st => by
    have h1 : (Op.equal t .nilFunc .nilFunc).run P w = .ok true w := run_equalIn_nil_nil ht 9999 w
    have h2 : (binOp .eql t .nilFunc .nilFunc).run P w = .ok (.bool true) w := by simp only [binOp]; simp [h1]
    simp [execOp, ho, st.has.ev hx, st.has.ev hy, eqGuard, h2]

/-- the address of an array's element -/
theorem Pure.indexAddrA {x y : Operand} {t e : TypeId} {b off k sz off' : Nat} {i : Int} {ki : IntKind} (ho : o.op = .indexAddr t x y) (hx : ev l x = some (.pointer (some ⟨b, off, none⟩))) (hy : ev l y = some (.int ki i)) (ht : P.underlying t = some (.array k e)) (hsz : csz P e = some sz) (h0 : 0 ≤ i) (h1 : i < k) (hoff : off + i.toNat * sz = off') :
    Pure P n W w0 l m o (.pointer (some ⟨b, off', none⟩)) :=
  fun c w st => by subst hoff; simp [execOp, ho, st.has.ev hx, st.has.ev hy, Instr.indexAt, asIntOf, run_underlying ht, Instr.sureAddr, h0, h1, run_sizeOf hsz, Addr.add_mid]

/-- the address of a slice's element -/
theorem Pure.indexAddrS {x y : Operand} {t e : TypeId} {b off k cp sz off' : Nat} {i : Int} {ki : IntKind} (ho : o.op = .indexAddr t x y) (hx : ev l x = some (.slice (some ⟨b, off, none⟩) k cp)) (hy : ev l y = some (.int ki i)) (ht : P.underlying t = some (.slice e)) (hsz : csz P e = some sz) (h0 : 0 ≤ i) (h1 : i < k) (hoff : off + i.toNat * sz = off') :
    Pure P n W w0 l m o (.pointer (some ⟨b, off', none⟩)) :=
  fun c w st => by subst hoff; simp [execOp, ho, st.has.ev hx, st.has.ev hy, Instr.indexAt, asIntOf, run_underlying ht, h0, h1, run_sizeOf hsz, Addr.add_mid]

/-- a call of a function value -/
theorem Eff.callFn {f : FuncId} {xs : List Operand} {vs first cap : List Value} {ts : Array TypeId} {x : Operand} {X : Type} {φ : X → Prop} {val : X → Value} {mem : X → List Res} (is js : List Nat)
    (ho : o.op = .call { callee := .value x, args := xs.toArray, argTypes := ts }) (hx : ev l x = some (.func (.func f) first.toArray cap.toArray)) (hf : entersB P f = true) (hv : evs l xs = some vs) (hd : dstOk n o.dst = true) (hdj : disj is js = true) (hjs : nod js = true)
    (hc : ∀ w, Mem W w0 m w → Keeps W w0 w → Calls P f (first ++ vs ++ cap).toArray w (fun e w' => ∃ x, φ x ∧ e = .returned (val x) ∧ Post w (blocksOf (selM m is)) (mem x) w')) :
    Eff P n W w0 l m o Q X φ (fun x => putD o.dst (val x) l) (fun x => mem x ++ selM m js) :=
  Eff.callE is js (fun _ _ st => run_callFn ho hx hf hv st) hd hdj hjs hc

/-- the nil row is always ours -/
theorem Mem.nilRow {w : World} (h : Mem W w0 m w) (e : TypeId) (sz : Nat) : Mem W w0 (.row (.slice none 0 0) e sz 0 [] :: m) w :=
  ⟨fun r hr => by
    rcases List.mem_cons.1 hr with rfl | hr
    · exact World.ownsRowF_nil _ _ _ _
    · exact h.holds r hr, fun r hr k hk => by
    rcases List.mem_cons.1 hr with rfl | hr
    · simp [Res.block, Value.ownBlock] at hk
    · exact h.may r hr k hk, .cons (fun s _ k hk => by simp [Res.block, Value.ownBlock] at hk) h.apart⟩

theorem Ok.nilRow {K : Act → World → Prop} (e : TypeId) (sz : Nat) (h : Ok n W w0 l (.row (.slice none 0 0) e sz 0 [] :: m) K) : Ok n W w0 l m K := fun a w st => h a w ⟨st.has, st.mem.nilRow e sz, st.keeps⟩

theorem Pure.nilCheckFn {x : Operand} {f : FuncId} {a b : Array Value} (ho : o.op = .nilCheck x) (hx : ev l x = some (.func (.func f) a b)) : Pure P n W w0 l m o (.func (.func f) a b) :=
  fun c w st => by simp [execOp, ho, st.has.ev hx]

/-- loads from a block that was there when the call began, and that stays -/
theorem Pure.loadO1 {t : TypeId} {x : Operand} {b off : Nat} {v : Value} {ss : List Seg} {T : TypeId} {fz : Nat × Nat} (hb : w0.heap[b]? = some (.cells (flat ss) T fz)) (hW : ¬ W b) (ho : o.op = .load t x) (hx : ev l x = some (.pointer (some ⟨b, off, none⟩)))
    (hv : at1 ss off = some v) (ht : aggB P t = some false) : Pure P n W w0 l m o v :=
  Pure.loadC ho hx ht fun w _ hK => by
    have hlt : b < w0.heap.size := (Array.getElem?_eq_some_iff.1 hb).1
    rw [World.cell?_of_block (w := w0) (hK.block b hlt hW), Lib.cell_of_heap hb, ← at1_eq]; exact hv

theorem Pure.loadOA {t : TypeId} {x : Operand} {b off k : Nat} {ss q : List Seg} {T : TypeId} {fz : Nat × Nat} (hb : w0.heap[b]? = some (.cells (flat ss) T fz)) (hW : ¬ W b) (ho : o.op = .load t x) (hx : ev l x = some (.pointer (some ⟨b, off, none⟩)))
    (hk : csz P t = some k) (hv : cut ss off k = some q) (ht : aggB P t = some true) : Pure P n W w0 l m o (.agg (flat q)) := by
  obtain ⟨h1, h2, h3⟩ := cut_spec ss off k q hv
  have hlt : b < w0.heap.size := (Array.getElem?_eq_some_iff.1 hb).1
  refine Pure.loadR ho hx ht (by rw [flat_size, h2]; exact hk) fun w _ hK j v hj => ?_
  rw [World.cell?_of_block (w := w0) (hK.block b hlt hW), Lib.cell_of_heap hb]
  rw [← h1] at hj
  rw [Array.toList_extract, List.extract_eq_take_drop] at hj
  rw [List.getElem?_take] at hj
  split at hj
  · rw [List.getElem?_drop] at hj
    simpa using hj
  · exact absurd hj (by simp)

theorem run_equalIn_bool {t : TypeId} (ht : P.underlying t = some .bool) (d : Nat) (a b : Bool) (w : World) : (Op.equalIn (d + 1) t (.bool a) (.bool b)).run P w = .ok (a == b) w := by
  simp [Op.equalIn, run_underlying ht]
theorem Pure.eqBool {x y : Operand} {t t' : TypeId} {a b : Bool} (ho : o.op = .binOp .eql t x y t') (hx : ev l x = some (.bool a)) (hy : ev l y = some (.bool b)) (ht : P.underlying t = some .bool) : Pure P n W w0 l m o (.bool (a == b)) :=
  fun c w st => by
    have h1 : (Op.equal t (.bool a) (.bool b)).run P w = .ok (a == b) w := run_equalIn_bool ht 9999 a b w
    have h2 : (binOp .eql t (.bool a) (.bool b)).run P w = .ok (.bool (a == b)) w := by simp only [binOp]; simp [h1]
    simp [execOp, ho, st.has.ev hx, st.has.ev hy, eqGuard, h2]
theorem Pure.neBool {x y : Operand} {t t' : TypeId} {a b : Bool} (ho : o.op = .binOp .neq t x y t') (hx : ev l x = some (.bool a)) (hy : ev l y = some (.bool b)) (ht : P.underlying t = some .bool) : Pure P n W w0 l m o (.bool (!(a == b))) :=
  fun c w st => by
    have h1 : (Op.equal t (.bool a) (.bool b)).run P w = .ok (a == b) w := run_equalIn_bool ht 9999 a b w
    have h2 : (binOp .neq t (.bool a) (.bool b)).run P w = .ok (.bool (!(a == b))) w := by simp only [binOp]; simp [h1]
    simp [execOp, ho, st.has.ev hx, st.has.ev hy, eqGuard, h2]

/-- a whole old block, read-only -/
theorem Keeps.old {S : Nat → Prop} {w w' : World} (hK : Keeps S w w') {b : Nat} {ob : Obj} (hb : w.heap[b]? = some ob) (hS : ¬ S b) : w'.heap[b]? = some ob := by
  rw [hK.block b (Array.getElem?_eq_some_iff.1 hb).1 hS]; exact hb

/-! ### exits through what stands around -/
theorem retHere {X : Act → World → Prop} : ∀ a w, X a w → X a w := fun _ _ h => h
theorem retThen {X K : Act → World → Prop} (h : ∀ a w, X a w → Q .ret a w) : ∀ a w, X a w → Exit.then K Q .ret a w := h
theorem retBlock {X : Act → World → Prop} {id : Nat} (h : ∀ a w, X a w → Q .ret a w) : ∀ a w, X a w → Exit.inBlock id Q .ret a w := h
theorem retScope {X : Act → World → Prop} (h : ∀ a w, X a w → Q .ret a w) : ∀ a w, X a w → Exit.noGoto Q .ret a w := h
theorem Ok.normBlock {id : Nat} (h : Ok n W w0 l m (Q .normal)) : Ok n W w0 l m (Exit.inBlock id Q .normal) := h
theorem Ok.normScope (h : Ok n W w0 l m (Q .normal)) : Ok n W w0 l m (Exit.noGoto Q .normal) := h
theorem Ok.normThen {K : Act → World → Prop} (h : Ok n W w0 l m K) : Ok n W w0 l m (Exit.then K Q .normal) := h
theorem Ok.exThen {id : Nat} {K : Act → World → Prop} (h : Ok n W w0 l m (Q (.exit id))) : Ok n W w0 l m (Exit.then K Q (.exit id)) := h
theorem Ok.exScope {id : Nat} (h : Ok n W w0 l m (Q (.exit id))) : Ok n W w0 l m (Exit.noGoto Q (.exit id)) := h
theorem Ok.exHere {id : Nat} (h : Ok n W w0 l m (Q .normal)) : Ok n W w0 l m (Exit.inBlock id Q (.exit id)) := by
  intro a w st
  show (if id = id then Q .normal a w else _)
  rw [if_pos rfl]
  exact h a w st
theorem Ok.exOther {id id' : Nat} (hne : Nat.beq id id' = false) (h : Ok n W w0 l m (Q (.exit id))) : Ok n W w0 l m (Exit.inBlock id' Q (.exit id)) := by
  intro a w st
  show (if id = id' then _ else Q (.exit id) a w)
  rw [if_neg (fun e => by subst e; simp at hne)]
  exact h a w st

/-- the same, where the contract only says what comes back -/
theorem Eff.callFnV {f : FuncId} {xs : List Operand} {vs first cap : List Value} {ts : Array TypeId} {x : Operand} {v : Value}
    (ho : o.op = .call { callee := .value x, args := xs.toArray, argTypes := ts }) (hx : ev l x = some (.func (.func f) first.toArray cap.toArray)) (hf : entersB P f = true) (hv : evs l xs = some vs) (hd : dstOk n o.dst = true)
    (hc : ∀ w, Mem W w0 m w → Keeps W w0 w → Calls P f (first ++ vs ++ cap).toArray w (fun e w' => e = .returned v ∧ Keeps none1 w w')) :
    Eff P n W w0 l m o Q Unit (fun _ => True) (fun _ => putD o.dst v l) (fun _ => m) := by
  intro a w K st h
  unfold Oper.wp
  rw [run_callFn ho hx hf hv st, Oper.upon_enter]
  refine (hc w st.mem st.keeps).mono fun e w' ⟨he, hk⟩ => ?_
  subst he
  exact h () trivial _ _ ⟨st.has.putD _ _ hd, st.mem.keep hk, st.keeps.trans hk.weak⟩

/-- what was ours at the beginning is ours at the end of a call that keeps all -/
theorem Mem.same {S : Nat → Prop} {ms : List Res} {w w' : World} (h : Mem S w ms w) (hk : Keeps none1 w w') : Mem S w ms w' := h.keep hk

end
end Go.SL
