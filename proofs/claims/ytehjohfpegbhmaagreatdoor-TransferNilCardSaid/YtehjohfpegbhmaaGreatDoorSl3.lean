/- A small logic for walks: the operations. -/
import Derived.Test.YtehjohfpegbhmaaGreatDoorSl2
import Derived.Deep.MidRow
namespace Go.SL
open Go.RowKit

/-! ### Strings by their bytes -/
theorem str_toList (l : List UInt8) : (⟨l.toArray⟩ : ByteArray).toList = l := by rw [ByteArray.toList_eq]
theorem str_size (l : List UInt8) : (⟨l.toArray⟩ : ByteArray).size = l.length := by simp [ByteArray.size]
theorem str_append (a b : List UInt8) : (⟨a.toArray⟩ : ByteArray) ++ ⟨b.toArray⟩ = ⟨(a ++ b).toArray⟩ := by
  apply ByteArray.ext; simp
theorem str_extract (l : List UInt8) (i j : Nat) : (⟨l.toArray⟩ : ByteArray).extract i j = ⟨((l.take j).drop i).toArray⟩ := by
  apply ByteArray.ext
  simp [ByteArray.data_extract]
  rw [List.drop_take]

/-! ### What is closed -/
def aggB (P : Program) (t : TypeId) : Option Bool :=
  match P.underlying t with
  | some (.struct _) => some true
  | some (.array _ _) => some true
  | some _ => some false
  | none => none

def fOff (P : Program) (s : TypeId) (f : Nat) : Option Nat :=
  match P.underlying s with
  | some (.struct fs) => match fs[f]? with
    | some fd => match P.info? fd.type with
      | some i => if i.size = 0 then none else some fd.offset
      | none => none
    | none => none
  | _ => none

def csz (P : Program) (t : TypeId) : Option Nat := (P.info? t).map (·.size)

def zcells (P : Program) (t : TypeId) : Option (Array Value) := ((P.info? t).bind (·.zero)).map (·.cells)

def entersB (P : Program) (f : FuncId) : Bool :=
  match P.funcs[f]? with
  | some fn => !(fn.name == "runtime.NumGoroutine") && fn.body.isSome
  | none => false

section
variable {P : Program} {n : Nat} {W : Nat → Prop} {w0 : World} {l : List (Nat × Value)} {m : List Res} {ops : Array Oper} {Q : Exit → Act → World → Prop} {rest : List Oper} {o : Oper}

theorem run_isAgg {t : TypeId} {b : Bool} (h : aggB P t = some b) (w : World) : (isAgg t).run P w = .ok b w := by
  unfold aggB at h
  unfold isAgg
  cases hu : P.underlying t with
  | none => simp [hu] at h
  | some d =>
    simp only [hu] at h
    rw [Sem.run_bind, run_underlying hu w]
    cases d <;> simp_all

theorem run_sizeOf {t : TypeId} {k : Nat} (h : csz P t = some k) (w : World) : (sizeOf t).run P w = .ok k w := by
  unfold csz at h
  cases hi : P.info? t with
  | none => simp [hi] at h
  | some i => simp [hi] at h; subst h; simp [sizeOf, typeInfo, hi]

theorem run_zeroValue {t : TypeId} {cs : Array Value} (h : zcells P t = some cs) (w : World) : ∃ v, (zeroValue t).run P w = .ok v w ∧ v.cells = cs := by
  unfold zcells at h
  cases hi : P.info? t with
  | none => simp [hi] at h
  | some i =>
    cases hz : i.zero with
    | none => simp [hi, hz] at h
    | some v => simp [hi, hz] at h; exact ⟨v, by simp [zeroValue, typeInfo, hi, hz], h⟩

theorem run_fieldAt {s : TypeId} {f k : Nat} (h : fOff P s f = some k) (b off : Nat) (w : World) : (Instr.fieldAt s (.pointer (some ⟨b, off, none⟩)) f).run P w = .ok (.pointer (some ⟨b, off + k, none⟩)) w := by
  unfold fOff at h
  cases hu : P.underlying s with
  | none => simp [hu] at h
  | some d =>
    cases d <;> simp only [hu] at h <;> try (simp at h; done)
    rename_i fs
    cases hf : fs[f]? with
    | none => simp [hf] at h
    | some fd =>
      simp only [hf] at h
      cases hi : P.info? fd.type with
      | none => simp [hi] at h
      | some i =>
        simp only [hi] at h
        by_cases h0 : i.size = 0
        · simp [h0] at h
        · rw [if_neg h0] at h
          simp only [Option.some.injEq] at h
          subst h
          have hs : (sizeOf fd.type).run P w = .ok i.size w := by simp [sizeOf, typeInfo, hi]
          simp [Instr.fieldAt, run_underlying hu, hf, Instr.sureAddr, fieldPlace, hs, h0, Addr.add_mid]

/-! ### Operations that yield -/
theorem Pure.mk {v : Value} (h : ∀ a w, St n W w0 l m a w → (execOp a.eval o).run P w = .ok (.value v) w) : Pure P n W w0 l m o v := h

theorem Pure.move {x : Operand} {v : Value} (ho : o.op = .move x) (hx : ev l x = some v) : Pure P n W w0 l m o v :=
  fun a w st => by simp [execOp, ho, st.has.ev hx]

theorem Pure.assign {x : Operand} {v : Value} (ho : o.op = .assign x) (hx : ev l x = some v) : Pure P n W w0 l m o v :=
  fun a w st => by simp [execOp, ho, st.has.ev hx]

theorem Pure.pick {c x y : Operand} {t : Bool} {u v : Value} (ho : o.op = .pick c x y) (hc : ev l c = some (.bool t)) (hx : ev l x = some u) (hy : ev l y = some v) : Pure P n W w0 l m o (bif t then u else v) :=
  fun a w st => by cases t <;> simp [execOp, ho, st.has.ev hc, st.has.ev hx, st.has.ev hy, asBool]
theorem Pure.pickT {c x y : Operand} {u : Value} (ho : o.op = .pick c x y) (hc : ev l c = some (.bool true)) (hx : ev l x = some u) : Pure P n W w0 l m o u :=
  fun a w st => by simp [execOp, ho, st.has.ev hc, st.has.ev hx, asBool]
theorem Pure.pickF {c x y : Operand} {u : Value} (ho : o.op = .pick c x y) (hc : ev l c = some (.bool false)) (hy : ev l y = some u) : Pure P n W w0 l m o u :=
  fun a w st => by simp [execOp, ho, st.has.ev hc, st.has.ev hy, asBool]

theorem Pure.fieldAddr {s : TypeId} {x : Operand} {f b off k off' : Nat} (ho : o.op = .fieldAddr s x f) (hx : ev l x = some (.pointer (some ⟨b, off, none⟩))) (hf : fOff P s f = some k) (hk : off + k = off') :
    Pure P n W w0 l m o (.pointer (some ⟨b, off', none⟩)) :=
  fun a w st => by subst hk; simp [execOp, ho, st.has.ev hx, run_fieldAt hf]

theorem Pure.nilCheck {x : Operand} {p : Addr} (ho : o.op = .nilCheck x) (hx : ev l x = some (.pointer (some p))) : Pure P n W w0 l m o (.pointer (some p)) :=
  fun a w st => by simp [execOp, ho, st.has.ev hx]

/-- a load of one cell -/
theorem Pure.loadC {t : TypeId} {x : Operand} {b off : Nat} {v : Value} (ho : o.op = .load t x) (hx : ev l x = some (.pointer (some ⟨b, off, none⟩))) (ht : aggB P t = some false)
    (hv : ∀ w, Mem W w0 m w → Keeps W w0 w → w.cell? ⟨b, off, none⟩ = some v) : Pure P n W w0 l m o v :=
  fun a w st => by simp [execOp, ho, st.has.ev hx, Instr.loadAt, Instr.sureAddr, loadVar, run_isAgg ht, load, Sem.run, hv w st.mem st.keeps]

/-- a load of a struct or an array -/
theorem Pure.loadR {t : TypeId} {x : Operand} {b off : Nat} {cs : Array Value} (ho : o.op = .load t x) (hx : ev l x = some (.pointer (some ⟨b, off, none⟩))) (ht : aggB P t = some true) (hk : csz P t = some cs.size)
    (hv : ∀ w, Mem W w0 m w → Keeps W w0 w → w.rangeAt b off cs.toList) : Pure P n W w0 l m o (.agg cs) :=
  fun a w st => by
    have hl : (loadCells ⟨b, off, none⟩ cs.size).run P w = .ok cs w := by
      have := run_loadCells_list (P := P) w ⟨b, off, none⟩ cs.toList (fun j v hj => by rw [Addr.add_mid]; exact hv w st.mem st.keeps j v hj)
      simpa using this
    simp [execOp, ho, st.has.ev hx, Instr.loadAt, Instr.sureAddr, loadVar, run_isAgg ht, run_sizeOf hk, hl]

theorem Mem.blk {i b : Nat} {ob : Obj} (hm : nth m i = some (.blk b ob)) {w : World} (h : Mem W w0 m w) : w.heap[b]? = some ob := by
  rw [nth_eq] at hm
  exact h.holds _ (List.mem_of_getElem? hm)

theorem Pure.load1 {t : TypeId} {x : Operand} {b off : Nat} {v : Value} (i : Nat) {ss : List Seg} {T : TypeId} {fz : Nat × Nat} (ho : o.op = .load t x) (hx : ev l x = some (.pointer (some ⟨b, off, none⟩)))
    (hm : nth m i = some (.blk b (.cells (flat ss) T fz))) (hv : at1 ss off = some v) (ht : aggB P t = some false) : Pure P n W w0 l m o v :=
  Pure.loadC ho hx ht fun w hM _ => by rw [Lib.cell_of_heap (hM.blk hm), ← at1_eq]; exact hv

theorem Pure.loadA {t : TypeId} {x : Operand} {b off k : Nat} (i : Nat) {ss q : List Seg} {T : TypeId} {fz : Nat × Nat} (ho : o.op = .load t x) (hx : ev l x = some (.pointer (some ⟨b, off, none⟩)))
    (hm : nth m i = some (.blk b (.cells (flat ss) T fz))) (hk : csz P t = some k) (hv : cut ss off k = some q) (ht : aggB P t = some true) : Pure P n W w0 l m o (.agg (flat q)) := by
  obtain ⟨h1, h2, h3⟩ := cut_spec ss off k q hv
  refine Pure.loadR ho hx ht (by rw [flat_size, h2]; exact hk) fun w hM _ j v hj => ?_
  rw [Lib.cell_of_heap (hM.blk hm)]
  rw [← h1] at hj
  rw [Array.toList_extract, List.extract_eq_take_drop] at hj
  rw [List.getElem?_take] at hj
  split at hj
  · rw [List.getElem?_drop] at hj
    simpa using hj
  · exact absurd hj (by simp)

theorem Pure.lss {x y : Operand} {k : IntKind} {p q : Int} {t t' : TypeId} (ho : o.op = .binOp .lss t x y t') (hx : ev l x = some (.int k p)) (hy : ev l y = some (.int k q)) : Pure P n W w0 l m o (.bool (decide (p < q))) :=
  fun a w st => by simp [execOp, ho, st.has.ev hx, st.has.ev hy, eqGuard, binOp, Op.intCmp]
theorem Pure.leq {x y : Operand} {k : IntKind} {p q : Int} {t t' : TypeId} (ho : o.op = .binOp .leq t x y t') (hx : ev l x = some (.int k p)) (hy : ev l y = some (.int k q)) : Pure P n W w0 l m o (.bool (decide (p ≤ q))) :=
  fun a w st => by simp [execOp, ho, st.has.ev hx, st.has.ev hy, eqGuard, binOp, Op.intCmp]
theorem Pure.gtr {x y : Operand} {k : IntKind} {p q : Int} {t t' : TypeId} (ho : o.op = .binOp .gtr t x y t') (hx : ev l x = some (.int k p)) (hy : ev l y = some (.int k q)) : Pure P n W w0 l m o (.bool (decide (q < p))) :=
  fun a w st => by simp [execOp, ho, st.has.ev hx, st.has.ev hy, eqGuard, binOp, Op.intCmp]
theorem Pure.geq {x y : Operand} {k : IntKind} {p q : Int} {t t' : TypeId} (ho : o.op = .binOp .geq t x y t') (hx : ev l x = some (.int k p)) (hy : ev l y = some (.int k q)) : Pure P n W w0 l m o (.bool (decide (q ≤ p))) :=
  fun a w st => by simp [execOp, ho, st.has.ev hx, st.has.ev hy, eqGuard, binOp, Op.intCmp]
theorem Pure.eqi {x y : Operand} {k : IntKind} {p q : Int} {t t' : TypeId} (ho : o.op = .binOp .eql t x y t') (hx : ev l x = some (.int k p)) (hy : ev l y = some (.int k q)) : Pure P n W w0 l m o (.bool (decide (p = q))) :=
  fun a w st => by simp [execOp, ho, st.has.ev hx, st.has.ev hy, eqGuard, binOp, Op.intCmp]; rfl
theorem Pure.nei {x y : Operand} {k : IntKind} {p q : Int} {t t' : TypeId} (ho : o.op = .binOp .neq t x y t') (hx : ev l x = some (.int k p)) (hy : ev l y = some (.int k q)) : Pure P n W w0 l m o (.bool (!decide (p = q))) :=
  fun a w st => by simp [execOp, ho, st.has.ev hx, st.has.ev hy, eqGuard, binOp, Op.intCmp]; rfl

theorem Pure.add {x y : Operand} {k : IntKind} {p q : Int} {t t' : TypeId} (ho : o.op = .binOp .add t x y t') (hx : ev l x = some (.int k p)) (hy : ev l y = some (.int k q)) : Pure P n W w0 l m o (.int k (k.wrap (p + q))) :=
  fun a w st => by simp [execOp, ho, st.has.ev hx, st.has.ev hy, eqGuard, binOp, Op.intArith]
theorem Pure.sub {x y : Operand} {k : IntKind} {p q : Int} {t t' : TypeId} (ho : o.op = .binOp .sub t x y t') (hx : ev l x = some (.int k p)) (hy : ev l y = some (.int k q)) : Pure P n W w0 l m o (.int k (k.wrap (p - q))) :=
  fun a w st => by simp [execOp, ho, st.has.ev hx, st.has.ev hy, eqGuard, binOp, Op.intArith]
theorem Pure.mul {x y : Operand} {k : IntKind} {p q : Int} {t t' : TypeId} (ho : o.op = .binOp .mul t x y t') (hx : ev l x = some (.int k p)) (hy : ev l y = some (.int k q)) : Pure P n W w0 l m o (.int k (k.wrap (p * q))) :=
  fun a w st => by simp [execOp, ho, st.has.ev hx, st.has.ev hy, eqGuard, binOp, Op.intArith]

theorem wrap_i64_id {p : Int} (h1 : -9223372036854775808 ≤ p) (h2 : p ≤ 9223372036854775807) : IntKind.i64.wrap p = p := by rw [IntKind.wrap_i64]; omega

theorem Pure.addI {x y : Operand} {p q r : Int} {t t' : TypeId} (ho : o.op = .binOp .add t x y t') (hx : ev l x = some (.int .i64 p)) (hy : ev l y = some (.int .i64 q)) (hr : r = p + q) (h1 : -9223372036854775808 ≤ p + q) (h2 : p + q ≤ 9223372036854775807) :
    Pure P n W w0 l m o (.int .i64 r) := by
  subst hr
  have := Pure.add (P := P) (n := n) (W := W) (w0 := w0) (m := m) ho hx hy
  rwa [wrap_i64_id h1 h2] at this
theorem Pure.subI {x y : Operand} {p q r : Int} {t t' : TypeId} (ho : o.op = .binOp .sub t x y t') (hx : ev l x = some (.int .i64 p)) (hy : ev l y = some (.int .i64 q)) (hr : r = p - q) (h1 : -9223372036854775808 ≤ p - q) (h2 : p - q ≤ 9223372036854775807) :
    Pure P n W w0 l m o (.int .i64 r) := by
  subst hr
  have := Pure.sub (P := P) (n := n) (W := W) (w0 := w0) (m := m) ho hx hy
  rwa [wrap_i64_id h1 h2] at this
theorem Pure.mulI {x y : Operand} {p q r : Int} {t t' : TypeId} (ho : o.op = .binOp .mul t x y t') (hx : ev l x = some (.int .i64 p)) (hy : ev l y = some (.int .i64 q)) (hr : r = p * q) (h1 : -9223372036854775808 ≤ p * q) (h2 : p * q ≤ 9223372036854775807) :
    Pure P n W w0 l m o (.int .i64 r) := by
  subst hr
  have := Pure.mul (P := P) (n := n) (W := W) (w0 := w0) (m := m) ho hx hy
  rwa [wrap_i64_id h1 h2] at this

theorem Pure.not {x : Operand} {b : Bool} {t : TypeId} (ho : o.op = .unOp .not t x) (hx : ev l x = some (.bool b)) : Pure P n W w0 l m o (.bool (!b)) :=
  fun a w st => by simp [execOp, ho, st.has.ev hx, Op.unary]

theorem Pure.extract {x : Operand} {i : Nat} {vs : List Value} {v : Value} (ho : o.op = .extract x i) (hx : ev l x = some (.tuple vs.toArray)) (hv : nth vs i = some v) : Pure P n W w0 l m o v :=
  fun a w st => by rw [nth_eq] at hv; simp [execOp, ho, st.has.ev hx, Instr.extract, hv]

theorem Pure.makeFunc {fn : Fn} {xs : List Operand} {vs : List Value} (ho : o.op = .makeFunc fn xs.toArray #[]) (hx : evs l xs = some vs) : Pure P n W w0 l m o (.func fn vs.toArray #[]) :=
  fun a w st => by simp [execOp, ho, Instr.makeFunc, st.has.evs hx]

theorem Pure.convI {x : Operand} {s t : TypeId} {k k' : IntKind} {p : Int} (ho : o.op = .convert s t x) (hx : ev l x = some (.int k p)) (hs : (P.underlying s).isSome = true) (hk : P.underlying t = some (.int k')) : Pure P n W w0 l m o (.int k' (k'.wrap p)) :=
  fun a w st => by
    obtain ⟨d, hd⟩ := Option.isSome_iff_exists.1 hs
    simp [execOp, ho, st.has.ev hx, convert, run_underlying hd, run_underlying hk, Conv.intToInt]

theorem run_equalIn_ptr_nil {t e : TypeId} (ht : P.underlying t = some (.pointer e)) (d : Nat) (p : Option Addr) (w : World) : (Op.equalIn (d + 1) t (.pointer p) (.pointer none)).run P w = .ok p.isNone w := by
  cases p <;> simp [Op.equalIn, run_underlying ht]

theorem run_eql_ptr_nil {t e : TypeId} (ht : P.underlying t = some (.pointer e)) (p : Option Addr) (w : World) : (binOp .eql t (.pointer p) (.pointer none)).run P w = .ok (.bool p.isNone) w := by
  simp only [binOp]
  simp [Op.equal, Op.maxDepth, run_equalIn_ptr_nil ht 9999 p w]

theorem run_neq_ptr_nil {t e : TypeId} (ht : P.underlying t = some (.pointer e)) (p : Option Addr) (w : World) : (binOp .neq t (.pointer p) (.pointer none)).run P w = .ok (.bool (!p.isNone)) w := by
  simp only [binOp]
  simp [Op.equal, Op.maxDepth, run_equalIn_ptr_nil ht 9999 p w]

/-- a pointer against nil -/
theorem Pure.eqNil {x y : Operand} {t t' e : TypeId} {p : Option Addr} (ho : o.op = .binOp .eql t x y t') (hx : ev l x = some (.pointer p)) (hy : ev l y = some (.pointer none)) (ht : P.underlying t = some (.pointer e)) : Pure P n W w0 l m o (.bool p.isNone) :=
  fun a w st => by simp [execOp, ho, st.has.ev hx, st.has.ev hy, eqGuard, run_eql_ptr_nil ht]
theorem Pure.neNil {x y : Operand} {t t' e : TypeId} {p : Option Addr} (ho : o.op = .binOp .neq t x y t') (hx : ev l x = some (.pointer p)) (hy : ev l y = some (.pointer none)) (ht : P.underlying t = some (.pointer e)) : Pure P n W w0 l m o (.bool (!p.isNone)) :=
  fun a w st => by simp [execOp, ho, st.has.ev hx, st.has.ev hy, eqGuard, run_neq_ptr_nil ht]

theorem beq_decide_list (s u : List UInt8) : (s == u) = decide (s = u) := by rw [Bool.eq_iff_iff]; simp

/-! ### Builtins and strings -/
theorem Pure.lenS {x : Operand} {s : List UInt8} {ts : Array TypeId} {t : TypeId} (ho : o.op = .call { callee := .builtin .len, args := #[x], argTypes := ts }) (hx : ev l x = some (str s)) (ht : ts[0]? = some t) (hu : P.underlying t = some .string) : Pure P n W w0 l m o (.int .i64 s.length) :=
  fun a w st => by simp [execOp, ho, resolve, invoke, builtin, st.has.ev hx, str, Builtin.len_, ht, run_underlying hu, str_size, goInt]
theorem Pure.lenSl {x : Operand} {p : Option Addr} {k c : Nat} {ts : Array TypeId} {t e : TypeId} (ho : o.op = .call { callee := .builtin .len, args := #[x], argTypes := ts }) (hx : ev l x = some (.slice p k c)) (ht : ts[0]? = some t) (hu : P.underlying t = some (.slice e)) : Pure P n W w0 l m o (.int .i64 k) :=
  fun a w st => by simp [execOp, ho, resolve, invoke, builtin, st.has.ev hx, Builtin.len_, ht, run_underlying hu, goInt]
theorem Pure.min2 {x y : Operand} {k : IntKind} {p q : Int} {ts : Array TypeId} (ho : o.op = .call { callee := .builtin .min, args := #[x, y], argTypes := ts }) (hx : ev l x = some (.int k p)) (hy : ev l y = some (.int k q)) : Pure P n W w0 l m o (.int k (min p q)) :=
  fun a w st => by
    have e : (if q < p then q else p) = min p q := by omega
    simp [execOp, ho, resolve, invoke, builtin, st.has.ev hx, st.has.ev hy, Builtin.min_, Builtin.min2, e]
theorem Pure.max2 {x y : Operand} {k : IntKind} {p q : Int} {ts : Array TypeId} (ho : o.op = .call { callee := .builtin .max, args := #[x, y], argTypes := ts }) (hx : ev l x = some (.int k p)) (hy : ev l y = some (.int k q)) : Pure P n W w0 l m o (.int k (max p q)) :=
  fun a w st => by
    have e : (if q > p then q else p) = max p q := by omega
    have e' : (if p < q then q else p) = max p q := by omega
    simp [execOp, ho, resolve, invoke, builtin, st.has.ev hx, st.has.ev hy, Builtin.max_, Builtin.max2, e']

theorem Pure.eqS {x y : Operand} {s u : List UInt8} {t t' : TypeId} (ho : o.op = .binOp .eql t x y t') (hx : ev l x = some (str s)) (hy : ev l y = some (str u)) : Pure P n W w0 l m o (.bool (decide (s = u))) :=
  fun a w st => by simp [execOp, ho, st.has.ev hx, st.has.ev hy, str, eqGuard, binOp, Op.stringOp, str_toList, beq_decide_list]
theorem Pure.neS {x y : Operand} {s u : List UInt8} {t t' : TypeId} (ho : o.op = .binOp .neq t x y t') (hx : ev l x = some (str s)) (hy : ev l y = some (str u)) : Pure P n W w0 l m o (.bool (!decide (s = u))) :=
  fun a w st => by simp [execOp, ho, st.has.ev hx, st.has.ev hy, str, eqGuard, binOp, Op.stringOp, str_toList, beq_decide_list]
theorem Pure.addS {x y : Operand} {s u : List UInt8} {t t' : TypeId} (ho : o.op = .binOp .add t x y t') (hx : ev l x = some (str s)) (hy : ev l y = some (str u)) (hl : s.length + u.length ≤ 9223372036854775807) : Pure P n W w0 l m o (str (s ++ u)) :=
  fun a w st => by
    have hm : IntKind.i64.max = 9223372036854775807 := rfl
    have hn : ¬ ((9223372036854775807 : Int) < (s.length : Int) + (u.length : Int)) := by omega
    simp [execOp, ho, st.has.ev hx, st.has.ev hy, str, eqGuard, binOp, Op.stringOp, str_append, str_size, hm, hn]

theorem run_sliceBound (P : Program) (w : World) {i : Int} {y : Nat} (c : BoundsCode) (h0 : 0 ≤ i) (h1 : i ≤ y) : (Instr.sliceBound (.int .i64 i) y c).run P w = .ok i.toNat w := by
  simp [Instr.sliceBound, asIntOf, h0, h1]

theorem Pure.sliceS {x : Operand} {lo hi : Option Operand} {s : List UInt8} {i j : Int} {t : TypeId} (ho : o.op = .slice t x lo hi none) (hx : ev l x = some (str s)) (hu : P.underlying t = some .string)
    (hlo : match lo with | some p => ev l p = some (.int .i64 i) | none => i = 0) (hhi : match hi with | some p => ev l p = some (.int .i64 j) | none => j = s.length)
    (h0 : 0 ≤ i) (h1 : i ≤ j) (h2 : j ≤ s.length) : Pure P n W w0 l m o (str ((s.take j.toNat).drop i.toNat)) :=
  fun a w st => by
    have hj : 0 ≤ j := by omega
    have hij : i ≤ (j.toNat : Int) := by omega
    cases lo with
    | none =>
      subst hlo
      cases hi with
      | none => subst hhi; simp [execOp, ho, st.has.ev hx, str, Instr.sliceAt, Instr.slice, run_underlying hu, Instr.sliceBounds, str_size, str_extract]
      | some q => simp only at hhi; simp [execOp, ho, st.has.ev hx, st.has.ev hhi, str, Instr.sliceAt, Instr.slice, run_underlying hu, Instr.sliceBounds, str_size, run_sliceBound P w _ hj h2, str_extract]
    | some p =>
      simp only at hlo
      cases hi with
      | none => subst hhi; simp [execOp, ho, st.has.ev hx, st.has.ev hlo, str, Instr.sliceAt, Instr.slice, run_underlying hu, Instr.sliceBounds, str_size, run_sliceBound P w _ h0 h1, str_extract]
      | some q => simp only at hhi; simp [execOp, ho, st.has.ev hx, st.has.ev hlo, st.has.ev hhi, str, Instr.sliceAt, Instr.slice, run_underlying hu, Instr.sliceBounds, str_size, run_sliceBound P w _ hj h2, run_sliceBound P w _ h0 hij, str_extract]

theorem Pure.indexS {x y : Operand} {s : List UInt8} {i : Int} {t : TypeId} {c : UInt8} (ho : o.op = .index t x y) (hx : ev l x = some (str s)) (hy : ev l y = some (.int .i64 i)) (hu : P.underlying t = some .string) (h0 : 0 ≤ i) (hc : s[i.toNat]? = some c) :
    Pure P n W w0 l m o (.int .u8 c.toNat) :=
  fun a w st => by
    have hget : (⟨s.toArray⟩ : ByteArray)[i.toNat]? = some c := by
      have hlt : i.toNat < s.length := (List.getElem?_eq_some_iff.1 hc).1
      have hlt' : i.toNat < (⟨s.toArray⟩ : ByteArray).size := by rw [str_size]; exact hlt
      rw [getElem?_pos (⟨s.toArray⟩ : ByteArray) i.toNat hlt']
      have : (⟨s.toArray⟩ : ByteArray)[i.toNat] = s[i.toNat] := rfl
      rw [this]
      rw [List.getElem?_eq_getElem hlt] at hc
      exact hc
    simp [execOp, ho, st.has.ev hx, st.has.ev hy, str, Instr.index, asIntOf, run_underlying hu, h0, hget]

end
end Go.SL
