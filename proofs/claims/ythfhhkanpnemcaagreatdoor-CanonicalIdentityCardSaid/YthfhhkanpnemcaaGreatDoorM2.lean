/- A small logic for walks: bits, arrays by index, slices that can be read. A small logic for walks: regions whose order is drawn, all of whose operations but the last are quiet (they read, or call what keeps all that was there); the last one waits for all of them. A small logic for walks: slice literals, and what is appended out of memory that is only read. A small logic for walks: slices of arrays of 32 bytes. A small logic for walks: maps that only grow. A small logic for walks: closures, slices against nil, masks. A small logic for walks: regions whose order is drawn, quiet but for their last two operations, which come up one behind the other. A small logic for walks: ranges over functions: what is said at an activation with marks, or in a round; the rule of the statement. A small logic for walks: entries, returns, rounds and the statement that ranges over a function. A small logic for walks: the statement that ranges over a function. A small logic for walks: the statement that ranges over a function, with blocks that neither side writes. A small logic for walks: fresh rows as blocks of bare cells. Short names for the rules of the walk. -/
import Derived.Test.YthfhhkanpnemcaaGreatDoorM1
import Derived.IntWalk
import Derived.Lib.ConvBytes
import Derived.LoopN
import Derived.Laws.IdiomStrings
import Derived.Deep.QuietTactic
import Derived.ChangeMaps4
import Derived.Carry
import Derived.Laws.Cover3
import Derived.RangeFuncNested
import Derived.RangeFuncBound
import Derived.RangeFuncCalls
import Derived.RangeFuncLeaves
namespace Go.SL
open Go.RowKit IntWalk
set_option linter.unusedVariables false
set_option linter.unusedSimpArgs false

section
variable {P : Program} {n : Nat} {W : Nat → Prop} {w0 : World} {l : List (Nat × Value)} {m : List Res} {ops : Array Oper} {Q : Exit → Act → World → Prop} {rest : List Oper} {o : Oper}

/-! ### Bits -/
theorem Pure.shl {x y : Operand} {k yk : IntKind} {p q r : Int} {t t' : TypeId} (ho : o.op = .binOp .shl t x y t') (hx : ev l x = some (.int k p)) (hy : ev l y = some (.int yk q)) (h0 : 0 ≤ q) (hr : k.wrap (p * 2 ^ (min q.toNat k.bits)) = r) : Pure P n W w0 l m o (.int k r) :=
 fun a w st => by
  have : ¬ q < 0 := by omega
  subst hr
  simp [execOp, ho, st.has.ev hx, st.has.ev hy, eqGuard, binOp, Op.shift, this]
theorem Pure.shr {x y : Operand} {k yk : IntKind} {p q r : Int} {t t' : TypeId} (ho : o.op = .binOp .shr t x y t') (hx : ev l x = some (.int k p)) (hy : ev l y = some (.int yk q)) (h0 : 0 ≤ q) (hr : p.fdiv (2 ^ (min q.toNat k.bits)) = r) : Pure P n W w0 l m o (.int k r) :=
 fun a w st => by
  have : ¬ q < 0 := by omega
  subst hr
  simp [execOp, ho, st.has.ev hx, st.has.ev hy, eqGuard, binOp, Op.shift, this]
theorem Pure.and {x y : Operand} {k : IntKind} {p q r : Int} {t t' : TypeId} (ho : o.op = .binOp .and t x y t') (hx : ev l x = some (.int k p)) (hy : ev l y = some (.int k q)) (hr : k.wrap (BitVec.ofInt k.bits p &&& BitVec.ofInt k.bits q).toNat = r) : Pure P n W w0 l m o (.int k r) :=
 fun a w st => by subst hr; simp [execOp, ho, st.has.ev hx, st.has.ev hy, eqGuard, binOp, Op.intBits]
theorem Pure.or {x y : Operand} {k : IntKind} {p q r : Int} {t t' : TypeId} (ho : o.op = .binOp .or t x y t') (hx : ev l x = some (.int k p)) (hy : ev l y = some (.int k q)) (hr : k.wrap (BitVec.ofInt k.bits p ||| BitVec.ofInt k.bits q).toNat = r) : Pure P n W w0 l m o (.int k r) :=
 fun a w st => by subst hr; simp [execOp, ho, st.has.ev hx, st.has.ev hy, eqGuard, binOp, Op.intBits]
theorem Pure.xor {x y : Operand} {k : IntKind} {p q r : Int} {t t' : TypeId} (ho : o.op = .binOp .xor t x y t') (hx : ev l x = some (.int k p)) (hy : ev l y = some (.int k q)) (hr : k.wrap (BitVec.ofInt k.bits p ^^^ BitVec.ofInt k.bits q).toNat = r) : Pure P n W w0 l m o (.int k r) :=
 fun a w st => by subst hr; simp [execOp, ho, st.has.ev hx, st.has.ev hy, eqGuard, binOp, Op.intBits]
theorem Pure.andNot {x y : Operand} {k : IntKind} {p q r : Int} {t t' : TypeId} (ho : o.op = .binOp .andNot t x y t') (hx : ev l x = some (.int k p)) (hy : ev l y = some (.int k q)) (hr : k.wrap (BitVec.ofInt k.bits p &&& ~~~ BitVec.ofInt k.bits q).toNat = r) : Pure P n W w0 l m o (.int k r) :=
 fun a w st => by subst hr; simp [execOp, ho, st.has.ev hx, st.has.ev hy, eqGuard, binOp, Op.intBits]
theorem Pure.neg {x : Operand} {k : IntKind} {p r : Int} {t : TypeId} (ho : o.op = .unOp .neg t x) (hx : ev l x = some (.int k p)) (hr : k.wrap (0 - p) = r) : Pure P n W w0 l m o (.int k r) :=
 fun a w st => by subst hr; simp [execOp, ho, st.has.ev hx, Op.unary, Op.intArith]
theorem Pure.compl {x : Operand} {k : IntKind} {p r : Int} {t : TypeId} (ho : o.op = .unOp .xor t x) (hx : ev l x = some (.int k p)) (hr : k.wrap (BitVec.ofInt k.bits (if k.signed then -1 else k.max) ^^^ BitVec.ofInt k.bits p).toNat = r) : Pure P n W w0 l m o (.int k r) :=
 fun a w st => by subst hr; simp [execOp, ho, st.has.ev hx, Op.unary, Op.intBits]

theorem Pure.convW {x : Operand} {s t : TypeId} {k k' : IntKind} {p r : Int} (ho : o.op = .convert s t x) (hx : ev l x = some (.int k p)) (hs : (P.underlying s).isSome = true) (hk : P.underlying t = some (.int k')) (hr : k'.wrap p = r) : Pure P n W w0 l m o (.int k' r) := hr ▸ Pure.convI ho hx hs hk
theorem Pure.addW {x y : Operand} {k : IntKind} {p q r : Int} {t t' : TypeId} (ho : o.op = .binOp .add t x y t') (hx : ev l x = some (.int k p)) (hy : ev l y = some (.int k q)) (hr : k.wrap (p + q) = r) : Pure P n W w0 l m o (.int k r) := hr ▸ Pure.add ho hx hy
theorem Pure.subW {x y : Operand} {k : IntKind} {p q r : Int} {t t' : TypeId} (ho : o.op = .binOp .sub t x y t') (hx : ev l x = some (.int k p)) (hy : ev l y = some (.int k q)) (hr : k.wrap (p - q) = r) : Pure P n W w0 l m o (.int k r) := hr ▸ Pure.sub ho hx hy
theorem Pure.mulW {x y : Operand} {k : IntKind} {p q r : Int} {t t' : TypeId} (ho : o.op = .binOp .mul t x y t') (hx : ev l x = some (.int k p)) (hy : ev l y = some (.int k q)) (hr : k.wrap (p * q) = r) : Pure P n W w0 l m o (.int k r) := hr ▸ Pure.mul ho hx hy

/-! ### Words -/
theorem u8_ofInt (a : UInt8) : BitVec.ofInt 8 (a.toNat : Int) = a.toBitVec := by
 apply BitVec.eq_of_toNat_eq; simp
theorem u32_ofInt (a : UInt32) : BitVec.ofInt 32 (a.toNat : Int) = a.toBitVec := by
 apply BitVec.eq_of_toNat_eq; simp
theorem u8_wrap (a : UInt8) : IntKind.u8.wrap (a.toNat : Int) = a.toNat := u8_in _ (by have := a.toNat_lt; omega)
theorem u32_wrap (a : UInt32) : IntKind.u32.wrap (a.toNat : Int) = a.toNat := u32_in _ (by have := a.toNat_lt; omega)

theorem Pure.andU8 (p q : UInt8) {x y : Operand} {t t' : TypeId} (ho : o.op = .binOp .and t x y t') (hx : ev l x = some (.int .u8 p.toNat)) (hy : ev l y = some (.int .u8 q.toNat)) : Pure P n W w0 l m o (.int .u8 (p &&& q).toNat) :=
 Pure.and ho hx hy (by show IntKind.u8.wrap ((BitVec.ofInt 8 _ &&& BitVec.ofInt 8 _).toNat : Int) = _; rw [u8_ofInt, u8_ofInt]; exact u8_wrap (p &&& q))
theorem Pure.orU8 (p q : UInt8) {x y : Operand} {t t' : TypeId} (ho : o.op = .binOp .or t x y t') (hx : ev l x = some (.int .u8 p.toNat)) (hy : ev l y = some (.int .u8 q.toNat)) : Pure P n W w0 l m o (.int .u8 (p ||| q).toNat) :=
 Pure.or ho hx hy (by show IntKind.u8.wrap ((BitVec.ofInt 8 _ ||| BitVec.ofInt 8 _).toNat : Int) = _; rw [u8_ofInt, u8_ofInt]; exact u8_wrap (p ||| q))
theorem Pure.andNotU8 (p q : UInt8) {x y : Operand} {t t' : TypeId} (ho : o.op = .binOp .andNot t x y t') (hx : ev l x = some (.int .u8 p.toNat)) (hy : ev l y = some (.int .u8 q.toNat)) : Pure P n W w0 l m o (.int .u8 (p &&& ~~~ q).toNat) :=
 Pure.andNot ho hx hy (by show IntKind.u8.wrap ((BitVec.ofInt 8 _ &&& ~~~ BitVec.ofInt 8 _).toNat : Int) = _; rw [u8_ofInt, u8_ofInt]; exact u8_wrap (p &&& ~~~ q))
theorem Pure.andU32 {p q : UInt32} {x y : Operand} {t t' : TypeId} (ho : o.op = .binOp .and t x y t') (hx : ev l x = some (.int .u32 p.toNat)) (hy : ev l y = some (.int .u32 q.toNat)) : Pure P n W w0 l m o (.int .u32 (p &&& q).toNat) :=
 Pure.and ho hx hy (by show IntKind.u32.wrap ((BitVec.ofInt 32 _ &&& BitVec.ofInt 32 _).toNat : Int) = _; rw [u32_ofInt, u32_ofInt]; exact u32_wrap (p &&& q))
theorem Pure.orU32 {p q : UInt32} {x y : Operand} {t t' : TypeId} (ho : o.op = .binOp .or t x y t') (hx : ev l x = some (.int .u32 p.toNat)) (hy : ev l y = some (.int .u32 q.toNat)) : Pure P n W w0 l m o (.int .u32 (p ||| q).toNat) :=
 Pure.or ho hx hy (by show IntKind.u32.wrap ((BitVec.ofInt 32 _ ||| BitVec.ofInt 32 _).toNat : Int) = _; rw [u32_ofInt, u32_ofInt]; exact u32_wrap (p ||| q))
theorem Pure.xorU32 {p q : UInt32} {x y : Operand} {t t' : TypeId} (ho : o.op = .binOp .xor t x y t') (hx : ev l x = some (.int .u32 p.toNat)) (hy : ev l y = some (.int .u32 q.toNat)) : Pure P n W w0 l m o (.int .u32 (p ^^^ q).toNat) :=
 Pure.xor ho hx hy (by show IntKind.u32.wrap ((BitVec.ofInt 32 _ ^^^ BitVec.ofInt 32 _).toNat : Int) = _; rw [u32_ofInt, u32_ofInt]; exact u32_wrap (p ^^^ q))
theorem Pure.complU32 {p : UInt32} {x : Operand} {t : TypeId} (ho : o.op = .unOp .xor t x) (hx : ev l x = some (.int .u32 p.toNat)) : Pure P n W w0 l m o (.int .u32 (~~~ p).toNat) :=
 Pure.compl ho hx (by
  show IntKind.u32.wrap ((BitVec.ofInt 32 (4294967295 : Int) ^^^ BitVec.ofInt 32 _).toNat : Int) = _
  rw [u32_ofInt]
  have h : (BitVec.ofInt 32 (4294967295 : Int) ^^^ p.toBitVec) = (~~~ p).toBitVec := by
   have h1 : BitVec.ofInt 32 (4294967295 : Int) = BitVec.allOnes 32 := by decide
   rw [h1, UInt32.toBitVec_not, BitVec.allOnes_xor]
  rw [h]; exact u32_wrap (~~~ p))
theorem Pure.addU32 {p q : UInt32} {x y : Operand} {t t' : TypeId} (ho : o.op = .binOp .add t x y t') (hx : ev l x = some (.int .u32 p.toNat)) (hy : ev l y = some (.int .u32 q.toNat)) : Pure P n W w0 l m o (.int .u32 (p + q).toNat) := by
 have h := Pure.add (P := P) (n := n) (W := W) (w0 := w0) (m := m) ho hx hy
 have e : IntKind.u32.wrap ((p.toNat : Int) + q.toNat) = ((p + q).toNat : Int) := by
  rw [IntKind.wrap_u32, UInt32.toNat_add]; omega
 rwa [e] at h
theorem Pure.shrU32 (k : Nat) {p : UInt32} {x y : Operand} {yk : IntKind} {t t' : TypeId} (ho : o.op = .binOp .shr t x y t') (hx : ev l x = some (.int .u32 p.toNat)) (hy : ev l y = some (.int yk k)) (hk : k < 32) : Pure P n W w0 l m o (.int .u32 (p >>> UInt32.ofNat k).toNat) :=
 Pure.shr ho hx hy (by omega) (by
  have e1 : min (Int.toNat (k : Int)) IntKind.u32.bits = k := by simp [IntKind.bits]; omega
  have e2 : (p >>> UInt32.ofNat k).toNat = p.toNat / 2 ^ k := by
   rw [UInt32.toNat_shiftRight, UInt32.toNat_ofNat', Nat.shiftRight_eq_div_pow, show k % 2 ^ 32 % 32 = k by omega]
  have e3 : (2 : Int) ^ k = ((2 ^ k : Nat) : Int) := by simp
  rw [e1, e2, e3, Int.fdiv_eq_ediv_of_nonneg _ (Int.natCast_nonneg _)]
  rfl)
theorem Pure.shlU32 (k : Nat) {p : UInt32} {x y : Operand} {yk : IntKind} {t t' : TypeId} (ho : o.op = .binOp .shl t x y t') (hx : ev l x = some (.int .u32 p.toNat)) (hy : ev l y = some (.int yk k)) (hk : k < 32) : Pure P n W w0 l m o (.int .u32 (p <<< UInt32.ofNat k).toNat) :=
 Pure.shl ho hx hy (by omega) (by
  have e1 : min (Int.toNat (k : Int)) IntKind.u32.bits = k := by simp [IntKind.bits]; omega
  have e2 : (p <<< UInt32.ofNat k).toNat = p.toNat * 2 ^ k % 4294967296 := by
   rw [UInt32.toNat_shiftLeft, UInt32.toNat_ofNat', Nat.shiftLeft_eq, show k % 2 ^ 32 % 32 = k by omega]
  have e3 : (2 : Int) ^ k = ((2 ^ k : Nat) : Int) := by simp
  rw [e1, e2, e3, IntKind.wrap_u32]
  omega)
theorem Pure.conv832 {p : UInt8} {x : Operand} {s t : TypeId} (ho : o.op = .convert s t x) (hx : ev l x = some (.int .u8 p.toNat)) (hs : (P.underlying s).isSome = true) (hk : P.underlying t = some (.int .u32)) : Pure P n W w0 l m o (.int .u32 p.toUInt32.toNat) := by
 have h := Pure.convI (n := n) (W := W) (w0 := w0) (m := m) ho hx hs hk
 have e : IntKind.u32.wrap (p.toNat : Int) = (p.toUInt32.toNat : Int) := by
  rw [u32_in _ (by have := p.toNat_lt; omega)]; simp
 rwa [e] at h
theorem Pure.conv328 {p : UInt32} {x : Operand} {s t : TypeId} (ho : o.op = .convert s t x) (hx : ev l x = some (.int .u32 p.toNat)) (hs : (P.underlying s).isSome = true) (hk : P.underlying t = some (.int .u8)) : Pure P n W w0 l m o (.int .u8 p.toUInt8.toNat) := by
 have h := Pure.convI (n := n) (W := W) (w0 := w0) (m := m) ho hx hs hk
 have e : IntKind.u8.wrap (p.toNat : Int) = (p.toUInt8.toNat : Int) := by
  rw [IntKind.wrap_u8, UInt32.toNat_toUInt8]; omega
 rwa [e] at h
theorem Pure.conv8R {p : UInt8} {x : Operand} {s t : TypeId} (ho : o.op = .convert s t x) (hx : ev l x = some (.int .u8 p.toNat)) (hs : (P.underlying s).isSome = true) (hk : P.underlying t = some (.int .i32)) : Pure P n W w0 l m o (.int .i32 p.toNat) := by
 have h := Pure.convI (n := n) (W := W) (w0 := w0) (m := m) ho hx hs hk
 rwa [i32_in _ (by have := p.toNat_lt; omega)] at h
theorem Pure.conv8I {p : UInt8} {x : Operand} {s t : TypeId} (ho : o.op = .convert s t x) (hx : ev l x = some (.int .u8 p.toNat)) (hs : (P.underlying s).isSome = true) (hk : P.underlying t = some (.int .i64)) : Pure P n W w0 l m o (.int .i64 p.toNat) := by
 have h := Pure.convI (n := n) (W := W) (w0 := w0) (m := m) ho hx hs hk
 rwa [wrap_i64_id (by have := p.toNat_lt; omega) (by have := p.toNat_lt; omega)] at h
theorem Pure.convStr {x : Operand} {s t : TypeId} {v : List UInt8} (ho : o.op = .convert s t x) (hx : ev l x = some (str v)) (hs : P.underlying s = some .string) (hk : P.underlying t = some .string) : Pure P n W w0 l m o (str v) :=
 fun a w st => by simp [execOp, ho, st.has.ev hx, str, convert, run_underlying hs, run_underlying hk]

/-! ### Values of arrays and structs, by index -/
theorem run_part {t : TypeId} {b : Bool} (ht : aggB P t = some b) {cs : Array Value} {off k : Nat} {v : Value} (hk : csz P t = some k) (hv : if b then v = .agg (cs.extract off (off + k)) else cs[off]? = some v) (w : World) : (part t cs off).run P w = .ok v w := by
 unfold part
 rw [Sem.run_bind, run_isAgg ht w]
 cases b with
 | true => simp at hv; subst hv; simp [run_sizeOf hk]
 | false => simp at hv; simp [hv]

theorem Pure.indexAg {x y : Operand} {t e : TypeId} {ki : IntKind} {k sz : Nat} {i : Int} {ss q : List Seg} (ho : o.op = .index t x y) (hx : ev l x = some (.agg (flat ss))) (hy : ev l y = some (.int ki i)) (ht : P.underlying t = some (.array k e)) (he : aggB P e = some true) (hsz : csz P e = some sz) (h0 : 0 ≤ i) (h1 : i < k) (hq : cut ss (i.toNat * sz) sz = some q) :
  Pure P n W w0 l m o (.agg (flat q)) := fun a w st => by
 obtain ⟨e1, _, _⟩ := cut_spec _ _ _ _ hq
 have := run_part (P := P) he (cs := flat ss) (off := i.toNat * sz) (v := .agg (flat q)) hsz (by simp [e1]) w
 simp [execOp, ho, st.has.ev hx, st.has.ev hy, Instr.index, asIntOf, run_underlying ht, h0, h1, run_sizeOf hsz, this]

theorem Pure.indexA1 {x y : Operand} {t e : TypeId} {ki : IntKind} {k : Nat} {i : Int} {cs : Array Value} {v : Value} (ho : o.op = .index t x y) (hx : ev l x = some (.agg cs)) (hy : ev l y = some (.int ki i)) (ht : P.underlying t = some (.array k e)) (he : aggB P e = some false) (hsz : csz P e = some 1) (h0 : 0 ≤ i) (h1 : i < k) (hv : cs[i.toNat]? = some v) :
  Pure P n W w0 l m o v := fun a w st => by
 have := run_part (P := P) he (cs := cs) (off := i.toNat) (v := v) hsz (by simpa using hv) w
 simp [execOp, ho, st.has.ev hx, st.has.ev hy, Instr.index, asIntOf, run_underlying ht, h0, h1, run_sizeOf hsz, this]

/-- offset, size and kind of a field -/
def fPart (P : Program) (s : TypeId) (f : Nat) : Option (TypeId × Nat) :=
 match P.underlying s with
 | some (.struct fs) => match fs[f]? with
  | some fd => some (fd.type, fd.offset)
  | none => none
 | _ => none

theorem run_field {s t : TypeId} {f off : Nat} (h : fPart P s f = some (t, off)) (cs : Array Value) (w : World) : (Instr.field s (.agg cs) f).run P w = (part t cs off).run P w := by
  unfold fPart at h
  cases hu : P.underlying s with
  | none => simp [hu] at h
  | some d =>
    cases d <;> simp only [hu] at h <;> try (simp at h; done)
    rename_i fs
    cases hf : fs[f]? with
    | none => simp [hf] at h
    | some fd =>
      simp [hf] at h
      obtain ⟨rfl, rfl⟩ := h
      simp [Instr.field, run_underlying hu, hf, asAgg]

theorem Pure.field1 {x : Operand} {s t : TypeId} {f off : Nat} {ss : List Seg} {v : Value} (ho : o.op = .field s x f) (hx : ev l x = some (.agg (flat ss))) (hf : fPart P s f = some (t, off)) (ht : aggB P t = some false) (hsz : csz P t = some 1) (hv : at1 ss off = some v) : Pure P n W w0 l m o v := fun a w st => by
 have := run_part (P := P) ht (cs := flat ss) (off := off) (v := v) hsz (by simpa [← at1_eq] using hv) w
 simp [execOp, ho, st.has.ev hx, run_field hf, this]
theorem Pure.fieldA {x : Operand} {s t : TypeId} {f off k : Nat} {ss q : List Seg} (ho : o.op = .field s x f) (hx : ev l x = some (.agg (flat ss))) (hf : fPart P s f = some (t, off)) (ht : aggB P t = some true) (hsz : csz P t = some k) (hq : cut ss off k = some q) : Pure P n W w0 l m o (.agg (flat q)) := fun a w st => by
 obtain ⟨e1, _, _⟩ := cut_spec _ _ _ _ hq
 have := run_part (P := P) ht (cs := flat ss) (off := off) (v := .agg (flat q)) hsz (by simp [e1]) w
 simp [execOp, ho, st.has.ev hx, run_field hf, this]

/-! ### Arrays in memory, by index -/
def wordA (l : List UInt32) : Array Value := (l.map fun x => Value.int .u32 x.toNat).toArray
structure Wd (n : Nat) where
 l : List UInt32
 h : l.length = n
def Wd.seg {n : Nat} (b : Wd n) : Seg := .arr n (wordA b.l) (by simp [wordA, b.h]) (by simp [wordA, Value.oneCell'])
theorem Wd.ext {n : Nat} {a b : Wd n} (h : a.l = b.l) : a = b := by cases a; cases b; simp at h; subst h; rfl
def Wd.zero (n : Nat) : Wd n := ⟨List.replicate n 0, by simp⟩
def Wd.get {n : Nat} (b : Wd n) (i : Nat) : UInt32 := b.l.getD i 0
def Wd.set {n : Nat} (b : Wd n) (i : Nat) (x : UInt32) : Wd n := ⟨b.l.set i x, by simp [b.h]⟩
def B.get {n : Nat} (b : B n) (i : Nat) : UInt8 := b.l.getD i 0
def B.set {n : Nat} (b : B n) (i : Nat) (x : UInt8) : B n := ⟨b.l.set i x, by simp [b.h]⟩

theorem Wd.at {n : Nat} (b : Wd n) {i : Nat} (h : i < n) : (flat [b.seg])[i]? = some (.int .u32 (b.get i).toNat) := by
 have : i < b.l.length := by rw [b.h]; exact h
 simp [flat, Wd.seg, Seg.cs, wordA, Wd.get, this]
theorem B.at {n : Nat} (b : B n) {i : Nat} (h : i < n) : (flat [b.seg])[i]? = some (.int .u8 (b.get i).toNat) := by
 have : i < b.l.length := by rw [b.h]; exact h
 simp [flat, B.seg, Seg.cs, byteA, B.get, this]

theorem Pure.loadAt {t : TypeId} {x : Operand} {b off : Nat} {v : Value} (i : Nat) {ss : List Seg} {T : TypeId} {fz : Nat × Nat} (ho : o.op = .load t x) (hx : ev l x = some (.pointer (some ⟨b, off, none⟩)))
  (hm : nth m i = some (.blk b (.cells (flat ss) T fz))) (hv : (flat ss)[off]? = some v) (ht : aggB P t = some false) : Pure P n W w0 l m o v :=
 Pure.loadC ho hx ht fun w hM _ => by rw [Lib.cell_of_heap (hM.blk hm)]; exact hv

theorem run_store1 {t : TypeId} {b off : Nat} {v : Value} {cs : Array Value} {T : TypeId} {w : World} (hb : w.heap[b]? = some (.cells cs T (0, 0))) (hv : v.oneCell' = true) (hk : csz P t = some 1) (ho : off < cs.size) :
  (Instr.storeAt t (.pointer (some ⟨b, off, none⟩)) v).run P w = .ok () (w.setRow b (cs.setIfInBounds off v)) := by
 have hc : v.cells = #[v] := by cases v <;> simp [Value.oneCell', Value.cells] at hv ⊢
 have hst := run_storeCells_at P b off T v.cells.toList 0 cs w hb (by rw [hc]; simp; omega) (fun x hx => by rw [hc] at hx; simp at hx; subst hx; exact hv)
 have he : (cs.toList.take (off + 0) ++ v.cells.toList ++ cs.toList.drop (off + 0 + v.cells.toList.length)).toArray = cs.setIfInBounds off v := by
  rw [hc]
  apply Array.ext'
  simp only [Nat.add_zero, List.length_singleton, Array.toList_setIfInBounds]
  rw [List.set_eq_take_append_cons_drop]
  rw [if_pos (by simpa using ho)]
  simp
 rw [he] at hst
 simp [Instr.storeAt, Instr.sureAddr, storeVar, run_sizeOf hk, show v.cells.size = 1 by rw [hc]; rfl, hst]

theorem Eff.store1 {t : TypeId} {x y : Operand} {b off : Nat} {v : Value} (i : Nat) {ss : List Seg} (ss' : List Seg) {T : TypeId} (ho : o.op = .store t x y) (hd : o.dst = none) (hx : ev l x = some (.pointer (some ⟨b, off, none⟩))) (hy : ev l y = some v) (hv : v.oneCell' = true)
  (hm : nth m i = some (.blk b (.cells (flat ss) T (0, 0)))) (hk : csz P t = some 1) (hoff : off < width ss) (hs : flat ss' = (flat ss).setIfInBounds off v) :
  Eff P n W w0 l m o Q Unit (fun _ => True) (fun _ => l) (fun _ => setN m i (.blk b (.cells (flat ss') T (0, 0)))) := by
 intro a w K st h
 have hb := st.mem.blk hm
 have hlt : b < w.heap.size := (Array.getElem?_eq_some_iff.1 hb).1
 have hr : (execOp a.eval o).run P w = .ok .skip (w.setRow b (flat ss')) := by
  rw [hs]
  simp [execOp, ho, st.has.ev hx, st.has.ev hy, run_store1 hb hv hk (by rw [flat_size]; exact hoff)]
 unfold Oper.wp
 rw [hr, Oper.upon_skip, hd]
 refine h () trivial _ _ ⟨st.has, ?_, ?_⟩
 ·
  exact st.mem.set hm (setRow_heap w b _ _ T _ hb) (by simp [World.setRow]) (fun k hk _ => setRow_other w b k _ hk)
 ·
  rw [nth_eq] at hm
  exact st.keeps.write (st.mem.may _ (List.mem_of_getElem? hm) b rfl) rfl rfl rfl (by simp [World.setRow]) (fun k hk _ => setRow_other w b k _ hk)

theorem Wd.flat_set {n : Nat} (b : Wd n) (i : Nat) (x : UInt32) : flat [(b.set i x).seg] = (flat [b.seg]).setIfInBounds i (.int .u32 x.toNat) := by
 apply Array.ext'
 simp [flat, Wd.seg, Seg.cs, wordA, Wd.set, List.map_set]
theorem B.flat_set {n : Nat} (b : B n) (i : Nat) (x : UInt8) : flat [(b.set i x).seg] = (flat [b.seg]).setIfInBounds i (.int .u8 x.toNat) := by
 apply Array.ext'
 simp [flat, B.seg, Seg.cs, byteA, B.set, List.map_set]

theorem Eff.storeW {t : TypeId} {x y : Operand} {b off N : Nat} {v : Wd N} {u : UInt32} (i : Nat) {T : TypeId} (ho : o.op = .store t x y) (hd : o.dst = none) (hx : ev l x = some (.pointer (some ⟨b, off, none⟩))) (hy : ev l y = some (.int .u32 u.toNat))
  (hm : nth m i = some (.blk b (.cells (flat [v.seg]) T (0, 0)))) (hk : csz P t = some 1) (hoff : off < N) :
  Eff P n W w0 l m o Q Unit (fun _ => True) (fun _ => l) (fun _ => setN m i (.blk b (.cells (flat [(v.set off u).seg]) T (0, 0)))) :=
 Eff.store1 i _ ho hd hx hy rfl hm hk (by simpa [width, Seg.n, Wd.seg] using hoff) (Wd.flat_set v off u)
theorem Eff.storeB {t : TypeId} {x y : Operand} {b off N : Nat} {v : B N} {u : UInt8} (i : Nat) {T : TypeId} (ho : o.op = .store t x y) (hd : o.dst = none) (hx : ev l x = some (.pointer (some ⟨b, off, none⟩))) (hy : ev l y = some (.int .u8 u.toNat))
  (hm : nth m i = some (.blk b (.cells (flat [v.seg]) T (0, 0)))) (hk : csz P t = some 1) (hoff : off < N) :
  Eff P n W w0 l m o Q Unit (fun _ => True) (fun _ => l) (fun _ => setN m i (.blk b (.cells (flat [(v.set off u).seg]) T (0, 0)))) :=
 Eff.store1 i _ ho hd hx hy rfl hm hk (by simpa [width, Seg.n, B.seg] using hoff) (B.flat_set v off u)

/-! ### Slices that can be read -/
/-- 'len' elements of 'sz' cells each lie at 'a' -/
def RC (sz : Nat) (w : World) (a : Option Addr) (len : Nat) (xs : List Value) : Prop :=
 xs.length = len * sz ∧ len ≤ maxLen ∧ (len = 0 ∨ ∃ b off, a = some ⟨b, off, none⟩ ∧ b < w.heap.size ∧ ∀ j x, xs[j]? = some x → w.cell? ⟨b, off + j, none⟩ = some x)

theorem RC.keep {sz : Nat} {w w' : World} {a : Option Addr} {len : Nat} {xs : List Value} (h : RC sz w a len xs) (hk : Keeps none1 w w') : RC sz w' a len xs := by
 refine ⟨h.1, h.2.1, ?_⟩
 rcases h.2.2 with h0 | ⟨b, off, rfl, hb, hc⟩
 ·
  exact .inl h0
 ·
  refine .inr ⟨b, off, rfl, Nat.lt_of_lt_of_le hb hk.size, fun j x hx => ?_⟩
  rw [World.cell?_of_block (w := w) (hk.block b hb (fun h => h))]
  exact hc j x hx

theorem RC.keepS {S : Nat → Prop} {sz : Nat} {w w' : World} {a : Option Addr} {len : Nat} {xs : List Value} (h : RC sz w a len xs) (hk : Keeps S w w') (hS : ∀ b off, a = some ⟨b, off, none⟩ → 0 < len → ¬ S b) : RC sz w' a len xs := by
 refine ⟨h.1, h.2.1, ?_⟩
 by_cases h0 : len = 0
 ·
  exact .inl h0
 rcases h.2.2 with h0' | ⟨b, off, rfl, hb, hc⟩
 ·
  exact .inl h0'
 ·
  refine .inr ⟨b, off, rfl, Nat.lt_of_lt_of_le hb hk.size, fun j x hx => ?_⟩
  rw [World.cell?_of_block (w := w) (hk.block b hb (hS b off rfl (by omega)))]
  exact hc j x hx

theorem RC.nil (sz : Nat) (w : World) (a : Option Addr) : RC sz w a 0 [] := ⟨by simp, by unfold maxLen; omega, .inl rfl⟩

/-- part of what can be read -/
theorem RC.part {sz : Nat} {w : World} {b off len : Nat} {xs : List Value} (h : RC sz w (some ⟨b, off, none⟩) len xs) {i j : Nat} (hij : i ≤ j) (hj : j ≤ len) : RC sz w (some ⟨b, off + i * sz, none⟩) (j - i) ((xs.take (j * sz)).drop (i * sz)) := by
 have h1 : i * sz ≤ j * sz := Nat.mul_le_mul_right _ hij
 have h2 : j * sz ≤ len * sz := Nat.mul_le_mul_right _ hj
 refine ⟨?_, Nat.le_trans (by omega) h.2.1, ?_⟩
 ·
  rw [List.length_drop, List.length_take, h.1, Nat.sub_mul]; omega
 ·
  by_cases h0 : j - i = 0
  ·
   exact .inl h0
  ·
   right
   rcases h.2.2 with h0' | ⟨b', off', he, hb, hc⟩
   ·
    omega
   ·
    simp only [Option.some.injEq, Addr.mk.injEq, and_true] at he
    obtain ⟨rfl, rfl⟩ := he
    refine ⟨b, _, rfl, hb, fun k x hk => ?_⟩
    rw [Nat.add_assoc]
    apply hc
    rw [List.getElem?_drop] at hk
    rw [List.getElem?_take] at hk
    split at hk
    ·
     exact hk
    ·
     cases hk

/-- an owned row can be read -/
theorem RC.row {w : World} {v : Value} {e : TypeId} {sz k : Nat} {xs : List Value} (h : w.ownsRowF 0 e sz v k xs) : ∃ a c, v = .slice a k c ∧ RC sz w a k xs ∧ k ≤ c ∧ c ≤ maxLen ∧ (∀ b off, a = some ⟨b, off, none⟩ → v.ownBlock = some b) := by
 rcases h.2 with ⟨rfl, rfl⟩ | ⟨g, cap, cur, fz, rfl, _, hg, _, h1, h2, h3, h4⟩
 ·
  exact ⟨none, 0, rfl, ⟨h.1, by unfold maxLen; omega, .inl rfl⟩, Nat.le_refl _, by unfold maxLen; omega, fun b off h => by cases h⟩
 ·
  refine ⟨some ⟨g, 0, none⟩, cap, rfl, ⟨h.1, Nat.le_trans h1 h2, .inr ⟨g, 0, rfl, (Array.getElem?_eq_some_iff.1 hg).1, fun j x hx => ?_⟩⟩, h1, h2, fun b off h => by cases h; rfl⟩
  have := World.ownsRowF.cells h (g := g) rfl j x hx
  rw [Addr.add_mid] at this
  exact this

theorem Pure.loadRC {t : TypeId} {x : Operand} {b off : Nat} {v : Value} (hb : b < w0.heap.size) (hW : ¬ W b) (hc : w0.cell? ⟨b, off, none⟩ = some v) (ho : o.op = .load t x) (hx : ev l x = some (.pointer (some ⟨b, off, none⟩))) (ht : aggB P t = some false) : Pure P n W w0 l m o v :=
 Pure.loadC ho hx ht fun w _ hK => by
  rw [World.cell?_of_block (w := w0) (hK.block b hb hW)]
  exact hc

/-- the part of a slice -/
theorem Pure.sliceSl {x : Operand} {lo hi : Option Operand} {b off k cp sz : Nat} {i j : Int} {t e : TypeId} (ho : o.op = .slice t x lo hi none) (hx : ev l x = some (.slice (some ⟨b, off, none⟩) k cp)) (hu : P.underlying t = some (.slice e)) (hsz : csz P e = some sz)
    (hlo : match lo with | some p => ev l p = some (.int .i64 i) | none => i = 0) (hhi : match hi with | some p => ev l p = some (.int .i64 j) | none => j = k)
    (h0 : 0 ≤ i) (h1 : i ≤ j) (h2 : j ≤ cp) (hk : k ≤ cp) : Pure P n W w0 l m o (.slice (some (if cp = i.toNat then ⟨b, off, none⟩ else ⟨b, off + i.toNat * sz, none⟩)) (j.toNat - i.toNat) (cp - i.toNat)) :=
  fun a w st => by
    have hj : 0 ≤ j := by omega
    have hij : i ≤ (j.toNat : Int) := by omega
    have hif : (if cp = i.toNat then some (⟨b, off, none⟩ : Addr) else some ((⟨b, off, none⟩ : Addr).add (i.toNat * sz))) = some (if cp = i.toNat then ⟨b, off, none⟩ else ⟨b, off + i.toNat * sz, none⟩) := by
      split <;> simp [Addr.add_mid]
    cases lo with
    | none =>
      subst hlo
      cases hi with
      | none => subst hhi; simp [execOp, ho, st.has.ev hx, Instr.sliceAt, Instr.slice, run_underlying hu, Instr.sliceBounds, run_sizeOf hsz] <;> simpa using hif
      | some q => simp only at hhi; simp [execOp, ho, st.has.ev hx, st.has.ev hhi, Instr.sliceAt, Instr.slice, run_underlying hu, Instr.sliceBounds, run_sizeOf hsz, run_sliceBound P w _ hj h2] <;> simpa using hif
    | some p =>
      simp only at hlo
      cases hi with
      | none => subst hhi; simp [execOp, ho, st.has.ev hx, st.has.ev hlo, Instr.sliceAt, Instr.slice, run_underlying hu, Instr.sliceBounds, run_sizeOf hsz, run_sliceBound P w _ h0 h1] <;> simpa using hif
      | some q => simp only at hhi; simp [execOp, ho, st.has.ev hx, st.has.ev hlo, st.has.ev hhi, Instr.sliceAt, Instr.slice, run_underlying hu, Instr.sliceBounds, run_sizeOf hsz, run_sliceBound P w _ hj h2, run_sliceBound P w _ h0 hij] <;> simpa using hif

/-- bytes as a string -/
theorem Pure.bytesStr {x : Operand} {s t e : TypeId} {a : Option Addr} {k c : Nat} {v : List UInt8} (ho : o.op = .convert s t x) (hx : ev l x = some (.slice a k c)) (hs : P.underlying s = some (.slice e)) (hk : P.underlying t = some .string) (he : P.underlying e = some (.int .u8))
  (hr : ∀ w, Mem W w0 m w → Keeps W w0 w → RC 1 w a k (bytesV v)) : Pure P n W w0 l m o (str v) := fun ac w st => by
 have h := hr w st.mem st.keeps
 have hkv : v.length = k := by have := h.1; rw [bytesV_length] at this; omega
 cases a with
 | none =>
  have h0 : k = 0 := by
   rcases h.2.2 with h0 | ⟨b, off, he, _⟩
   ·
    exact h0
   ·
    cases he
  subst h0
  have hv : v = [] := List.eq_nil_of_length_eq_zero hkv
  subst hv
  simp [execOp, ho, st.has.ev hx, run_convert_bytes_string w s t e none 0 c hs he hk, Conv.bytesToString, str]
  rfl
 | some q =>
  subst hkv
  have := run_convert_bytes_back (P := P) w s t e q c v hs he hk (fun j hj => by
   rcases h.2.2 with h0 | ⟨b, off, he, _, hc⟩
   ·
    omega
   ·
    simp only [Option.some.injEq] at he
    subst he
    rw [Addr.add_mid]
    exact hc j _ (by simp [bytesV, hj]))
  simp [execOp, ho, st.has.ev hx, this, str]

/-- a string's bytes, in a row of their own that is only read -/
theorem Eff.strBytes {x : Operand} {s t e : TypeId} {d : Nat} {v : List UInt8} {u : TypeDesc} (ho : o.op = .convert s t x) (hx : ev l x = some (str v)) (hs : P.underlying s = some u) (hk : P.underlying t = some (.slice e)) (he : P.underlying e = some (.int .u8)) (hd : o.dst = some d) (hdn : Nat.ble (d + 1) n = true) :
  Eff P n W w0 l m o Q (Nat × Nat × Array Value × (Nat × Nat)) (fun y => (∃ pad, y.2.2.1.toList = bytesV v ++ pad) ∧ v.length ≤ y.2.1) (fun y => (d, .slice (some ⟨y.1, 0, none⟩) v.length y.2.1) :: l) (fun y => .blk y.1 (.cells y.2.2.1 e y.2.2.2) :: m) := by
 intro a w K st h
 have h1 := Lib.run_convert_string_bytes (P := P) w s t e (⟨v.toArray⟩ : ByteArray) hs hk he
 have hr : (execOp a.eval o).run P w = .ok (.value (.slice (some ⟨w.heap.size, 0, none⟩) v.length (grownCap w v.length 0 e))) (Lib.bytesWorld w e ⟨v.toArray⟩) := by
  simp only [str_size] at h1
  simp [execOp, ho, st.has.ev hx, str, h1]
 have hK : Keeps none1 w (Lib.bytesWorld w e ⟨v.toArray⟩) := by
  refine ⟨rfl, ?_, rfl, by rw [Lib.bytesWorld_size]; omega, fun k hk _ => Lib.bytesWorld_at_old w e _ k hk⟩
  simp [Lib.bytesWorld, World.freeze, World.alloc, World.drew, -World.alloc_eq, -World.drew_eq]
 unfold Oper.wp
 rw [hr, Oper.upon_value, hd]
 refine h (w.heap.size, grownCap w v.length 0 e, Lib.bytesCells w e ⟨v.toArray⟩, ((Lib.bytesCells w e ⟨v.toArray⟩).size, (Lib.bytesCells w e ⟨v.toArray⟩).size + 1)) ⟨⟨List.replicate (grownCap w v.length 0 e - v.length) (.int .u8 0), ?_⟩, ?_⟩ _ _ ⟨st.has.put _ hdn, ?_, st.keeps.trans hK.weak⟩
 ·
  simp [Lib.bytesCells, bytesV, str_size]
 ·
  have := grownCap_ge w v.length 0 e; exact this
 ·
  exact st.mem.cons_new hK st.keeps.size (Lib.bytesWorld_at_new w e _) (fun k hk => by simp [Res.block] at hk; omega)

/-- what the row of a string's bytes reads as -/
theorem RC.ofBytes {w : World} {b : Nat} {cs : Array Value} {e : TypeId} {fz : Nat × Nat} {v : List UInt8} (hb : w.heap[b]? = some (.cells cs e fz)) (h : ∃ pad, cs.toList = bytesV v ++ pad) (hm : v.length ≤ maxLen) : RC 1 w (some ⟨b, 0, none⟩) v.length (bytesV v) := by
 obtain ⟨pad, hp⟩ := h
 refine ⟨by rw [bytesV_length]; omega, hm, .inr ⟨b, 0, rfl, (Array.getElem?_eq_some_iff.1 hb).1, fun j x hx => ?_⟩⟩
 rw [Lib.cell_of_heap hb, Nat.zero_add, ← Array.getElem?_toList, hp, List.getElem?_append_left (List.getElem?_eq_some_iff.1 hx).1]
 exact hx

/-! ### Loops whose rounds are few -/
theorem Ok.loopN (k : Nat) {c : Code} (h : Ok n W w0 l m (Code.rounds P c Q k)) : Ok n W w0 l m ((Code.loop c).wp P Q) := fun a w st => wp_loop_rounds k (h a w st)
theorem Ok.roundS {k : Nat} {c : Code} (h : Ok n W w0 l m (c.wp P (Exit.then (Code.rounds P c Q k) Q))) : Ok n W w0 l m (Code.rounds P c Q (k + 1)) := fun a w st => h a w st
end
end Go.SL
namespace Go.SL
open Go.RowKit
set_option linter.unusedVariables false
set_option linter.unusedSimpArgs false

/-- every head operation waits for earlier ones alone; the last waits for all -/
def lastB (md : Region.Mode) (hs : List Oper) (o : Oper) : Bool :=
 (List.range hs.length).all (fun i => match hs[i]? with
  | some x => x.after.all fun e => !Region.binds md e || decide (e.on < i)
  | none => true) && ((List.range hs.length).all fun i => (o.after.any fun e => Region.binds md e && decide (e.on = i)) || (List.range hs.length).any fun j => decide (i < j) && match hs[j]? with
  | some x => x.after.any fun e => Region.binds md e && decide (e.on = i)
  | none => false) && (o.after.all fun e => !Region.binds md e || decide (e.on < hs.length)) && hs.all fun x => match x.guard with
  | some (g, _) => decide (g < hs.length)
  | none => true

section
variable {P : Program} {md : Region.Mode} {C : World → Prop} {hs : List Oper} {o : Oper} {Q : Exit → Act → World → Prop}

theorem ready_all {H : List Oper} (hB : (List.range H.length).all (fun i => match H[i]? with
    | some x => x.after.all fun e => !Region.binds md e || decide (e.on < i)
    | none => true) = true) {listed : Array Bool} (hn : Region.ready md H.toArray listed = []) : ∀ i, i < H.length → listed.getD i true = true := by
  intro i
  induction i using Nat.strongRecOn with
  | _ i ih =>
    intro hi
    cases hl : listed.getD i true with
    | true => rfl
    | false =>
      exfalso
      have hmem : i ∈ Region.ready md H.toArray listed := by
        refine mem_ready.2 ⟨hl, H[i], by simp [hi], fun e he hb => ?_⟩
        have h1 := List.all_eq_true.1 hB i (List.mem_range.2 hi)
        rw [List.getElem?_eq_getElem hi] at h1
        simp only [Array.all_eq_true_iff_forall_mem] at h1
        have h2 := h1 e he
        simp only [hb, Bool.not_true, Bool.false_or, decide_eq_true_eq] at h2
        have h3 := ih e.on h2 (by omega)
        have hs : e.on < listed.size := by
          rcases Nat.lt_or_ge i listed.size with h | h
          · omega
          · simp [Array.getElem?_eq_none h] at hl
        simpa [hs] using h3
      rw [hn] at hmem
      cases hmem

theorem yielded_head (hs : List Oper) (o : Oper) (tmps : Array Value) {g : Nat} (hg : g < hs.length) : yielded (hs ++ [o]).toArray tmps g = yielded hs.toArray tmps g := by
 unfold yielded
 simp [List.getElem?_append_left hg]

theorem quiet_last (hL : lastB md hs o = true) (hg : o.guard = none) : ∀ (fuel : Nat) (lh : Array Bool) (a : Act) (w : World), lh.size = hs.length → (∀ j x, hs[j]? = some x → lh.getD j false = true → ∀ e ∈ x.after, Region.binds md e = true → lh.getD e.on false = true) → C w →
    wpAnyQ P md hs.toArray C (fun a' => ∀ w', C w' → ∀ K : Act → World → Prop, (∀ a w, Q .normal a w → K a w) → o.wp P a' w' K Q) fuel lh a → wpAny P md (hs ++ [o]).toArray Q (fuel + 1) (lh.push false) a w := by
  simp only [lastB, Bool.and_eq_true] at hL
  obtain ⟨⟨⟨hL1, hL2⟩, hL3⟩, hL4⟩ := hL
  -- what is ready
  have hlast : ∀ (lh : Array Bool), lh.size = hs.length → (∀ j x, hs[j]? = some x → lh.getD j false = true → ∀ e ∈ x.after, Region.binds md e = true → lh.getD e.on false = true) → hs.length ∈ Region.ready md (hs ++ [o]).toArray (lh.push false) → ∀ i, i < hs.length → lh.getD i true = true := by
    intro lh hsz hcl hr
    obtain ⟨_, x, hx, hall⟩ := mem_ready.1 hr
    have hxo : x = o := by simp at hx; exact hx.symm
    subst hxo
    have key : ∀ (d i : Nat), hs.length - i = d → i < hs.length → lh.getD i false = true := by
      intro d
      induction d using Nat.strongRecOn with
      | _ d ih =>
        intro i hd hi
        have h1 := List.all_eq_true.1 hL2 i (List.mem_range.2 hi)
        rw [Bool.or_eq_true] at h1
        rcases h1 with h1 | h1
        · obtain ⟨e, he, hb⟩ := Array.any_eq_true'.1 h1
          simp only [Bool.and_eq_true, decide_eq_true_eq] at hb
          have h2 := hall e he hb.1
          rw [hb.2] at h2
          have : i < lh.size := by omega
          simp [Array.getElem?_push, this, Nat.ne_of_lt this] at h2 ⊢
          exact h2
        · obtain ⟨j, hj, hb⟩ := List.any_eq_true.1 h1
          have hjl := List.mem_range.1 hj
          simp only [Bool.and_eq_true, decide_eq_true_eq] at hb
          obtain ⟨hij, hb⟩ := hb
          rw [List.getElem?_eq_getElem hjl] at hb
          obtain ⟨e, he, hb'⟩ := Array.any_eq_true'.1 hb
          simp only [Bool.and_eq_true, decide_eq_true_eq] at hb'
          have h3 := ih (hs.length - j) (by omega) j rfl hjl
          have h4 := hcl j hs[j] (List.getElem?_eq_getElem hjl) h3 e he hb'.1
          rw [hb'.2] at h4
          exact h4
    intro i hi
    have h1 := key _ i rfl hi
    have h2 : i < lh.size := by omega
    simp [h2] at h1 ⊢
    exact h1
  have hhead : ∀ (lh : Array Bool), lh.size = hs.length → ∀ i, i < hs.length → (i ∈ Region.ready md (hs ++ [o]).toArray (lh.push false) ↔ i ∈ Region.ready md hs.toArray lh) := by
    intro lh hsz i hi
    have hi' : i < lh.size := by omega
    rw [mem_ready, mem_ready]
    have e1 : (lh.push false).getD i true = lh.getD i true := by simp [Array.getElem?_push, hi', Nat.ne_of_lt hi']
    have e2 : (hs ++ [o]).toArray[i]? = hs.toArray[i]? := by simp [List.getElem?_append_left hi]
    rw [e1, e2]
    refine and_congr Iff.rfl (exists_congr fun x => and_congr_right fun hx => ?_)
    refine forall_congr' fun e => forall_congr' fun he => forall_congr' fun hb => ?_
    have h1 := List.all_eq_true.1 hL1 i (List.mem_range.2 hi)
    have hx' : hs[i]? = some x := by simpa using hx
    rw [hx'] at h1
    simp only [Array.all_eq_true_iff_forall_mem] at h1
    have h2 := h1 e he
    simp only [hb, Bool.not_true, Bool.false_or, decide_eq_true_eq] at h2
    have h3 : e.on < lh.size := by omega
    simp [Array.getElem?_push, h3, Nat.ne_of_lt h3]
  have hbound : ∀ (lh : Array Bool), lh.size = hs.length → ∀ i, i ∈ Region.ready md (hs ++ [o]).toArray (lh.push false) → i < hs.length ∨ i = hs.length := by
    intro lh hsz i hi
    obtain ⟨_, x, hx, _⟩ := mem_ready.1 hi
    have := (Array.getElem?_eq_some_iff.1 hx).1
    simp at this
    omega
  have hklast : ∀ (lh : Array Bool), lh.size = hs.length → (∀ i, i < hs.length → lh.getD i true = true) → hs.length ∈ Region.ready md (hs ++ [o]).toArray (lh.push false) := by
    intro lh hsz hall
    refine mem_ready.2 ⟨by rw [← hsz]; simp, o, by simp, fun e he hb => ?_⟩
    have h1 : e.on < hs.length := by
      simp only [Array.all_eq_true_iff_forall_mem] at hL3
      have := hL3 e he
      simpa [hb] using this
    have h2 := hall e.on h1
    have h3 : e.on < lh.size := by omega
    simp [Array.getElem?_push, h3, Nat.ne_of_lt h3] at h2 ⊢
    exact h2
  have hnone : ∀ (lh : Array Bool), lh.size = hs.length → (∀ i, i < hs.length → lh.getD i true = true) → Region.ready md (hs ++ [o]).toArray ((lh.push false).setIfInBounds hs.length true) = [] := by
    intro lh hsz hall
    apply List.eq_nil_iff_forall_not_mem.2
    intro j hj
    obtain ⟨h0, x, hx, _⟩ := mem_ready.1 hj
    have hjl := (Array.getElem?_eq_some_iff.1 hx).1
    simp at hjl
    by_cases hjk : j = hs.length
    · subst hjk
      have : hs.length < (lh.push false).size := by simp [hsz]
      simp [Array.getElem?_setIfInBounds, hsz] at h0
    · have h1 := hall j (by omega)
      have h3 : j < lh.size := by omega
      simp [Array.getElem?_setIfInBounds, Ne.symm hjk, Array.getElem?_push, h3, Nat.ne_of_lt h3] at h0 h1
      rw [h0] at h1; cases h1
  have htake : ∀ (f : Nat) (lh : Array Bool) (a : Act) (w : World), lh.size = hs.length → C w → (∀ i, i < hs.length → lh.getD i true = true) →
      (∀ w', C w' → ∀ K : Act → World → Prop, (∀ a w, Q .normal a w → K a w) → o.wp P a w' K Q) → wpOp P (hs ++ [o]).toArray Q hs.length (wpAny P md (hs ++ [o]).toArray Q f ((lh.push false).setIfInBounds hs.length true)) a w := by
    intro f lh a w hsz hC hall hF
    unfold wpOp
    have ho : (hs ++ [o]).toArray[hs.length]? = some o := by simp
    simp only [ho]
    rw [if_pos (by simp [Region.wanted, hg])]
    refine .inl (hF w hC _ fun a' w' hq => ?_)
    have hn := hnone lh hsz hall
    cases f with
    | zero => exact ⟨hn, hq⟩
    | succ f => exact ⟨fun _ => hq, fun i hi => by rw [hn] at hi; cases hi⟩
  have hop : ∀ (i : Nat) (a : Act) (w : World) (K : Act → Prop) (K' : Act → World → Prop), i < hs.length → C w → (∀ a' w', C w' → K a' → K' a' w') → qOp P hs.toArray C i K a → wpOp P (hs ++ [o]).toArray Q i K' a w := by
    intro i a w K K' hi hC hK hq
    unfold qOp at hq
    unfold wpOp
    have e1 : hs.toArray[i]? = some hs[i] := by simp [hi]
    have e2 : (hs ++ [o]).toArray[i]? = some hs[i] := by simp [List.getElem?_append_left hi]
    simp only [e1] at hq
    simp only [e2]
    have hw : Region.wanted hs[i] (yielded (hs ++ [o]).toArray a.tmps) = Region.wanted hs[i] (yielded hs.toArray a.tmps) := by
      have h4 := List.all_eq_true.1 hL4 hs[i] (List.getElem_mem hi)
      unfold Region.wanted
      cases hgg : hs[i].guard with
      | none => rfl
      | some gb =>
        obtain ⟨g, b⟩ := gb
        rw [hgg] at h4
        simp only [decide_eq_true_eq] at h4
        simp only [yielded_head hs o a.tmps h4]
    rw [hw]
    split
    · rename_i hww
      simp only [hww, if_true] at hq
      exact .inl (Oper.wp_of_quiet hC hK hq)
    · rename_i hww
      simp only [hww] at hq
      exact hK _ _ hC hq
  intro fuel
  induction fuel with
  | zero =>
    intro lh a w hsz hcl hC hq
    have hall := ready_all hL1 hq.1
    refine ⟨fun h0 => ?_, fun i hi => ?_⟩
    · have := hklast lh hsz hall
      rw [h0] at this; cases this
    · rcases hbound lh hsz i hi with hlt | rfl
      · have := (hhead lh hsz i hlt).1 hi
        rw [hq.1] at this; cases this
      · exact htake 0 lh a w hsz hC hall hq.2
  | succ fuel ih =>
    intro lh a w hsz hcl hC hq
    refine ⟨fun h0 => ?_, fun i hi => ?_⟩
    · have hn : Region.ready md hs.toArray lh = [] := by
        apply List.eq_nil_iff_forall_not_mem.2
        intro j hj
        have hjl : j < hs.length := by
          obtain ⟨_, x, hx, _⟩ := mem_ready.1 hj
          have := (Array.getElem?_eq_some_iff.1 hx).1
          simpa using this
        have := (hhead lh hsz j hjl).2 hj
        rw [h0] at this; cases this
      have := hklast lh hsz (ready_all hL1 hn)
      rw [h0] at this; cases this
    · rcases hbound lh hsz i hi with hlt | rfl
      · have hr := (hhead lh hsz i hlt).1 hi
        refine hop i a w _ _ hlt hC (fun a' w' hC' hk => ?_) (hq.2 i hr)
        have hcl' : ∀ j x, hs[j]? = some x → (lh.setIfInBounds i true).getD j false = true → ∀ e ∈ x.after, Region.binds md e = true → (lh.setIfInBounds i true).getD e.on false = true := by
          intro j x hx hl e he hb
          by_cases hij : i = j
          · subst hij
            obtain ⟨_, y, hy, hall⟩ := mem_ready.1 hr
            have : y = x := by simp at hy; rw [hx] at hy; exact (Option.some.inj hy).symm
            subst this
            exact getD_set_true (hall e he hb)
          · rw [getD_set_ne false hij] at hl
            exact getD_set_true (hcl j x hx hl e he hb)
        have := ih (lh.setIfInBounds i true) a' w' (by simp [hsz]) hcl' hC' hk
        have e : (lh.setIfInBounds i true).push false = (lh.push false).setIfInBounds i true := by
          apply Array.ext'
          simp [List.set_append, hsz, hlt]
        rwa [e] at this
      · have hall := hlast lh hsz hcl hi
        have hn : Region.ready md hs.toArray lh = [] := by
          apply List.eq_nil_iff_forall_not_mem.2
          intro j hj
          obtain ⟨h0, x, hx, _⟩ := mem_ready.1 hj
          have hjl := (Array.getElem?_eq_some_iff.1 hx).1
          have := hall j (by simpa using hjl)
          rw [h0] at this; cases this
        exact htake (fuel + 1) lh a w hsz hC hall (hq.1 hn)

theorem region_quiet_last {id : Nat} {a : Act} {w : World} (hm : P.follows .mixedOrders = true) (hB : Region.lexB .any hs.toArray = true) (hL : lastB .any hs o = true) (hg : o.guard = none) (hC : C { w with drawn := w.drawn + 1 })
  (h : wpQuiet P hs.toArray C (fun a' => ∀ w', C w' → ∀ K : Act → World → Prop, (∀ a w, Q .normal a w → K a w) → o.wp P a' w' K Q) hs a) : (Code.region id (hs ++ [o]).toArray true).wp P Q a w := by
 simp only [Region.lexB, Bool.and_eq_true] at hB
 refine wp_region_any hm ?_
 have h1 := wpAnyQ_lex (C := C) (md := .any) hB.1 hs 0 (Array.replicate hs.toArray.size false) a (by simp) (by simpa using hB.2) h
 have h2 := quiet_last (Q := Q) (md := .any) hL hg hs.length (Array.replicate hs.length false) a { w with drawn := w.drawn + 1 } (by simp) (fun j x hx hl => by rw [getD_replicate_false] at hl; cases hl) hC (by simpa using h1)
 have e : (Array.replicate hs.length false).push false = Array.replicate (hs.length + 1) false := by
  apply Array.ext'
  simp [List.replicate_succ']
 rw [e] at h2
 simpa using h2
end

/-! ### In the logic -/
section
variable {P : Program} {n : Nat} {W : Nat → Prop} {w0 : World} {l : List (Nat × Value)} {m : List Res} {ops : Array Oper} {Q : Exit → Act → World → Prop} {rest : List Oper} {o : Oper} {F : Act → Prop}

/-- quiet operations, in the order of the text -/
def OkQ (P : Program) (n : Nat) (W : Nat → Prop) (w0 : World) (l : List (Nat × Value)) (m : List Res) (ops : Array Oper) (F : Act → Prop) (rest : List Oper) : Prop :=
 ∀ a, Has n l a → wpQuiet P ops (fun w => Mem W w0 m w ∧ Keeps W w0 w) F rest a

theorem wanted_ofH {g : Nat} {want c : Bool} {og : Oper} {dg : Nat} {a : Act} (hg : o.guard = some (g, want)) (ho : ops[g]? = some og) (hd : og.dst = some dg) (hc : look l dg = some (.bool c)) (st : Has n l a) : Region.wanted o (yielded ops a.tmps) = (c == want) := by
 have h1 := st.get dg _ hc
 simp [Region.wanted, hg, yielded, ho, hd, h1]
theorem wanted_unH {g : Nat} {want : Bool} {og : Oper} {dg : Nat} {a : Act} (hg : o.guard = some (g, want)) (ho : ops[g]? = some og) (hd : og.dst = some dg) (hc : look l dg = some undef) (st : Has n l a) : Region.wanted o (yielded ops a.tmps) = false := by
 have h1 := st.get dg _ hc
 simp [Region.wanted, hg, yielded, ho, hd, h1, undef]

/-- an operation that is quiet: it yields v, in every world of ours, and leaves one of ours -/
def Quiet (P : Program) (n : Nat) (W : Nat → Prop) (w0 : World) (l : List (Nat × Value)) (m : List Res) (o : Oper) (v : Value) : Prop :=
 ∀ a, Has n l a → ∀ w, Mem W w0 m w ∧ Keeps W w0 w → o.quietAt P a (fun w => Mem W w0 m w ∧ Keeps W w0 w) w v

theorem Quiet.pure {v : Value} (h : Pure P n W w0 l m o v) : Quiet P n W w0 l m o v := fun a ha w hw => by
 have := h a w ⟨ha, hw.1, hw.2⟩
 unfold Oper.quietAt
 rw [this]
 exact ⟨rfl, rfl⟩

theorem Quiet.call {f : FuncId} {xs : List Operand} {vs : List Value} {ts : Array TypeId} {x : Operand} {v : Value}
  (ho : o.op = .call { callee := .value x, args := xs.toArray, argTypes := ts }) (hx : ev l x = some (.func (.func f) #[] #[])) (hf : entersB P f = true) (hv : evs l xs = some vs)
  (hc : ∀ w, Mem W w0 m w → Keeps W w0 w → Calls P f vs.toArray w (fun e w' => e = .returned v ∧ Keeps none1 w w')) : Quiet P n W w0 l m o v := fun a ha w hw => by
 have h1 := run_callOp (P := P) (n := n) (W := W) (w0 := w0) (l := l) (m := m) (o := o) (a := a) (w := w) ho hx hf hv ⟨ha, hw.1, hw.2⟩
 unfold Oper.quietAt
 rw [h1]
 exact ⟨rfl, (hc w hw.1 hw.2).mono fun e w' ⟨he, hk⟩ => ⟨he, hw.1.keep hk, hw.2.trans hk.weak⟩⟩

theorem OkQ.op {d : Nat} {v : Value} (hg : o.guard = none) (hd : o.dst = some d) (hdn : Nat.ble (d + 1) n = true) (hp : Quiet P n W w0 l m o v) (h : OkQ P n W w0 ((d, v) :: l) m ops F rest) : OkQ P n W w0 l m ops F (o :: rest) := by
 intro a ha
 refine wpQuiet_step fun K hK => ?_
 rw [if_pos (by simp [Region.wanted, hg])]
 refine ⟨v, fun w hw => hp a ha w hw, ?_⟩
 rw [hd]
 exact hK _ (h _ (ha.put v hdn))
theorem OkQ.opG {d g dg : Nat} {want c : Bool} {og : Oper} {v : Value} (hg : o.guard = some (g, want)) (ho : ops[g]? = some og) (hgd : og.dst = some dg) (hc : look l dg = some (.bool c)) (hcw : (c == want) = true)
  (hd : o.dst = some d) (hdn : Nat.ble (d + 1) n = true) (hp : Quiet P n W w0 l m o v) (h : OkQ P n W w0 ((d, v) :: l) m ops F rest) : OkQ P n W w0 l m ops F (o :: rest) := by
 intro a ha
 refine wpQuiet_step fun K hK => ?_
 rw [if_pos (by rw [wanted_ofH hg ho hgd hc ha, hcw])]
 refine ⟨v, fun w hw => hp a ha w hw, ?_⟩
 rw [hd]
 exact hK _ (h _ (ha.put v hdn))
theorem OkQ.opS {d g dg : Nat} {want c : Bool} {og : Oper} (hg : o.guard = some (g, want)) (ho : ops[g]? = some og) (hgd : og.dst = some dg) (hc : look l dg = some (.bool c)) (hcw : (c == want) = false)
  (hd : o.dst = some d) (hdn : Nat.ble (d + 1) n = true) (h : OkQ P n W w0 ((d, undef) :: l) m ops F rest) : OkQ P n W w0 l m ops F (o :: rest) := by
 intro a ha
 refine wpQuiet_step fun K hK => ?_
 rw [if_neg (by simp [wanted_ofH hg ho hgd hc ha, hcw]), hd]
 exact hK _ (h _ (ha.put undef hdn))
theorem OkQ.opU {d g dg : Nat} {want : Bool} {og : Oper} (hg : o.guard = some (g, want)) (ho : ops[g]? = some og) (hgd : og.dst = some dg) (hc : look l dg = some undef)
  (hd : o.dst = some d) (hdn : Nat.ble (d + 1) n = true) (h : OkQ P n W w0 ((d, undef) :: l) m ops F rest) : OkQ P n W w0 l m ops F (o :: rest) := by
 intro a ha
 refine wpQuiet_step fun K hK => ?_
 rw [if_neg (by simp [wanted_unH hg ho hgd hc ha]), hd]
 exact hK _ (h _ (ha.put undef hdn))
theorem OkQ.split {d : Nat} {c : Bool} (hc : look l d = some (.bool c)) (ht : c = true → OkQ P n W w0 ((d, .bool true) :: l) m ops F rest) (hf : c = false → OkQ P n W w0 ((d, .bool false) :: l) m ops F rest) : OkQ P n W w0 l m ops F rest := by
 cases c with
 | true => exact fun a ha => ht rfl a (ha.dup hc)
 | false => exact fun a ha => hf rfl a (ha.dup hc)
theorem OkQ.setT {d : Nat} {c : Bool} (hc : look l d = some (.bool c)) (ht : c = true) (h : OkQ P n W w0 ((d, .bool true) :: l) m ops F rest) : OkQ P n W w0 l m ops F rest := fun a ha => h a (ha.dup (ht ▸ hc))
theorem OkQ.setF {d : Nat} {c : Bool} (hc : look l d = some (.bool c)) (ht : c = false) (h : OkQ P n W w0 ((d, .bool false) :: l) m ops F rest) : OkQ P n W w0 l m ops F rest := fun a ha => h a (ha.dup (ht ▸ hc))

/-- a region that draws, all of whose operations are quiet -/
theorem Ok.quiet {id : Nat} {os : List Oper} (hm : P.follows .mixedOrders = true) (hB : Region.lexB .any os.toArray = true)
  (h : OkQ P n W w0 l m os.toArray (fun a' => ∀ w', Mem W w0 m w' ∧ Keeps W w0 w' → Q .normal a' w') os) : Ok n W w0 l m ((Code.region id os.toArray true).wp P Q) := by
 intro a w st
 have st' := st.keep (Keeps.drew none1 w)
 refine wp_region_quiet (C := fun w => Mem W w0 m w ∧ Keeps W w0 w) hm hB ⟨st'.mem, st'.keeps⟩ ?_
 simpa using h a st.has
theorem OkQ.done (h : Ok n W w0 l m (Q .normal)) : OkQ P n W w0 l m ops (fun a' => ∀ w', Mem W w0 m w' ∧ Keeps W w0 w' → Q .normal a' w') [] :=
 fun a ha w' hw' => h a w' ⟨ha, hw'.1, hw'.2⟩

/-- .. all but the last -/
theorem Ok.quietLast {id : Nat} {os hs : List Oper} {o : Oper} (k : Nat) (hh : os.take k = hs) (ht : os.drop k = [o]) (hm : P.follows .mixedOrders = true) (hB : Region.lexB .any hs.toArray = true) (hL : lastB .any hs o = true) (hg : o.guard = none)
  (h : OkQ P n W w0 l m hs.toArray (fun a' => ∀ w', Mem W w0 m w' ∧ Keeps W w0 w' → ∀ K : Act → World → Prop, (∀ a w, Q .normal a w → K a w) → o.wp P a' w' K Q) hs) : Ok n W w0 l m ((Code.region id os.toArray true).wp P Q) := by
 intro a w st
 have st' := st.keep (Keeps.drew none1 w)
 have e : os = hs ++ [o] := by rw [← hh, ← ht, List.take_append_drop]
 subst e
 exact region_quiet_last (C := fun w => Mem W w0 m w ∧ Keeps W w0 w) hm hB hL hg ⟨st'.mem, st'.keeps⟩ (h a st.has)
theorem OkQ.last {X : Type} {φ : X → Prop} {l' : X → List (Nat × Value)} {m' : X → List Res} (he : Eff P n W w0 l m o Q X φ l' m') (h : ∀ x, φ x → Ok n W w0 (l' x) (m' x) (Q .normal)) :
  OkQ P n W w0 l m ops (fun a' => ∀ w', Mem W w0 m w' ∧ Keeps W w0 w' → ∀ K : Act → World → Prop, (∀ a w, Q .normal a w → K a w) → o.wp P a' w' K Q) [] :=
 fun a ha w' hw' K hK => he a w' K ⟨ha, hw'.1, hw'.2⟩ fun x hx a'' w'' st' => hK a'' w'' (h x hx a'' w'' st')
end
end Go.SL
namespace Go.SL
open Go.RowKit
set_option linter.unusedVariables false
set_option linter.unusedSimpArgs false

section
variable {P : Program} {n : Nat} {W : Nat → Prop} {w0 : World} {l : List (Nat × Value)} {m : List Res} {ops : Array Oper} {Q : Exit → Act → World → Prop} {rest : List Oper} {o : Oper}

theorem retB {b c : Bool} (h : (b = true) ↔ (c = true)) : Ending.returned (.bool b) = Ending.returned (.bool c) := by rw [Bool.eq_iff_iff.2 h]

/-- the row that a slice literal begins as -/
def bsRow (P : Program) (e : TypeId) (len : Nat) : Option (Array Value) :=
 match csz P e, zcells P e with
 | some 1, some z => some ((Array.range (len * 1)).map (z[· % z.size]!))
 | _, _ => none

theorem Eff.buildSlice {t e : TypeId} {len d : Nat} {ps : List (Nat × Operand)} {vs : List (Nat × Value)} (zs : Array Value) (cs : List Value) (ho : o.op = .buildSlice t len ps.toArray) (hv : evp l ps = some vs) (ht : P.underlying t = some (.slice e)) (hz : bsRow P e len = some zs)
  (hf : Instr.fill (fun i => some (i * 1, 1)) zs vs = some cs.toArray) (hl : cs.length = len) (h24 : len ≤ 1024) (hd : o.dst = some d) (hdn : Nat.ble (d + 1) n = true) :
  Eff P n W w0 l m o Q Nat (fun _ => True) (fun g => (d, .slice (some ⟨g, 0, none⟩) len len) :: l) (fun g => .row (.slice (some ⟨g, 0, none⟩) len len) e 1 len cs :: m) := by
 intro a w K st h
 have hcz : csz P e = some 1 := by
  unfold bsRow at hz
  split at hz
  ·
   assumption
  ·
   cases hz
 have h1 : (Array.map (fun x : Nat × Operand => (x.1, a.eval x.2)) ps.toArray) = vs.toArray := by rw [List.map_toArray, st.has.evp hv]
 have h2 : ¬ (len * 1 > 2 ^ 24) := by omega
 have hrun : (Instr.buildSlice t len vs.toArray).run P w = .ok (.slice (some ⟨w.heap.size, 0, none⟩) len len) (w.alloc (.cells cs.toArray e (0, 0))) := by
  unfold bsRow at hz
  split at hz
  ·
   rename_i z hc hzz
   obtain ⟨zv, hzv, hzc⟩ := run_zeroValue hzz w
   simp only [Option.some.injEq] at hz
   by_cases h0 : len = 0
   ·
    subst h0
    have hzs : zs = #[] := by rw [← hz]; simp
    subst hzs
    simp [Instr.buildSlice, run_underlying ht, run_sizeOf hcz, newRow]
    simp only [Nat.mul_one] at hf
    have he : (Array.map (fun x => (default : Value)) (Array.range 0)) = #[] := by simp
    rw [he, hf]
    simp
   ·
    have h0' : ¬ len * 1 = 0 := by omega
    simp [Instr.buildSlice, run_underlying ht, run_sizeOf hcz, newRow, h0, hzv, hzc]
    simp only [Nat.mul_one] at hf
    have h24' : ¬ (16777216 < len) := by omega
    rw [Nat.mul_one] at hz
    simp [h24', hz, hf]
  ·
   cases hz
 have hr : (execOp a.eval o).run P w = .ok (.value (.slice (some ⟨w.heap.size, 0, none⟩) len len)) (w.alloc (.cells cs.toArray e (0, 0))) := by
  simp [execOp, ho, h1, hrun]
 unfold Oper.wp
 rw [hr, Oper.upon_value, hd]
 refine h w.heap.size trivial _ _ ⟨st.has.put _ hdn, ?_, st.keeps.trans (Keeps.alloc W w _)⟩
 refine st.mem.cons_new (Keeps.alloc none1 w _) st.keeps.size ⟨by omega, .inr ⟨w.heap.size, len, cs.toArray, (0, 0), rfl, Nat.zero_le _, heap_alloc_new w _, Nat.zero_le _, Nat.le_refl _, by unfold maxLen; omega, by simpa using hl, ?_⟩⟩ (fun k hk => by simp [Res.block, Value.ownBlock] at hk; omega)
 simp only [Nat.mul_one]
 rw [← hl]; simp

theorem Src.ofRC {w : World} {sz : Nat} {tx e' : TypeId} {a : Option Addr} {k c : Nat} {xs : List Value} (hk : P.underlying tx = some (.slice e')) (h : RC sz w a k xs) (h1 : ∀ u ∈ xs, u.oneCell' = true) : Src P sz tx (.slice a k c) k xs w := by
 cases a with
 | none =>
  have h0 : k = 0 := by
   rcases h.2.2 with h0 | ⟨b, off, he, _⟩
   ·
    exact h0
   ·
    cases he
  subst h0
  have hx : xs = [] := List.eq_nil_of_length_eq_zero (by simpa using h.1)
  subst hx
  exact Src.ofNil w hk c
 | some q =>
  refine Src.ofSlice w hk q k c xs h.1 (fun j u hj => ?_) h1
  rcases h.2.2 with h0 | ⟨b, off, he, _, hc⟩
  ·
   subst h0
   have hx : xs = [] := List.eq_nil_of_length_eq_zero (by simpa using h.1)
   subst hx
   simp at hj
  ·
   simp only [Option.some.injEq] at he
   subst he
   rw [Addr.add_mid]
   exact hc j u hj

/-- append(v, x...) where x is only read -/
theorem Eff.appendR {sl x : Operand} {t tx e e' : TypeId} {d sz by' k mm c : Nat} {v : Value} {ax : Option Addr} {xs news : List Value} (i : Nat) (js : List Nat) (ho : o.op = .call { callee := .builtin .append, args := #[sl, x], argTypes := #[t, tx] }) (hv : ev l sl = some v) (hx : ev l x = some (.slice ax mm c))
  (hm : nth m i = some (.row v e sz k xs)) (ht : P.underlying t = some (.slice e)) (htx : P.underlying tx = some (.slice e')) (hi : rowInfo P e = some (sz, by')) (hr : ∀ w, Mem W w0 m w → Keeps W w0 w → RC sz w ax mm news) (h1 : ∀ u ∈ news, u.oneCell' = true)
  (hd : o.dst = some d) (hdn : Nat.ble (d + 1) n = true) (hdj : disj [i] js = true) (hjs : nod js = true) (hb : k + mm ≤ 140737488355328) (hb2 : (k + mm) * by' ≤ 140737488355328) :
  Eff P n W w0 l m o Q Value (fun v' => (v' = .slice none 0 0 ↔ v = .slice none 0 0 ∧ mm = 0) ∧ (okV v → okV v')) (fun v' => (d, v') :: l) (fun v' => .row v' e sz (k + mm) (xs ++ news) :: selM m js) :=
 Eff.appendG i js ho hv hx hm ht hi (fun w hM hK => Src.ofRC htx (hr w hM hK) h1) hd hdn hdj hjs hb hb2

theorem bytesV_one (s : List UInt8) : ∀ u ∈ bytesV s, u.oneCell' = true := by simp [bytesV, Value.oneCell']
theorem strs_one (s : List (List UInt8)) : ∀ u ∈ s.map str, u.oneCell' = true := by simp [str, Value.oneCell']

/-- the address of an owned row -/
theorem Ok.rowAddr {K : Act → World → Prop} (i : Nat) {v : Value} {e : TypeId} {sz k : Nat} {xs : List Value} (hm : nth m i = some (.row v e sz k xs))
  (h : (v = .slice none 0 0 ∧ k = 0) ∨ (∃ g c, v = .slice (some ⟨g, 0, none⟩) k c ∧ k ≤ c ∧ c ≤ maxLen) → Ok n W w0 l m K) : Ok n W w0 l m K := fun a w st => by
 have hown : w.ownsRowF 0 e sz v k xs := by rw [nth_eq] at hm; exact st.mem.holds _ (List.mem_of_getElem? hm)
 refine h ?_ a w st
 rcases hown.2 with h | ⟨g, cap, cur, fz, rfl, _, _, _, h1, h2, _⟩
 ·
  exact .inl h
 ·
  exact .inr ⟨g, cap, rfl, h1, h2⟩

/-- an owned row, read -/
theorem Mem.rc {i : Nat} {a : Option Addr} {c : Nat} {e : TypeId} {sz k : Nat} {xs : List Value} (hm : nth m i = some (.row (.slice a k c) e sz k xs)) {w : World} (h : Mem W w0 m w) : RC sz w a k xs := by
 have hown : w.ownsRowF 0 e sz (.slice a k c) k xs := by rw [nth_eq] at hm; exact h.holds _ (List.mem_of_getElem? hm)
 obtain ⟨a', c', he, hr, _⟩ := RC.row hown
 simp only [Value.slice.injEq] at he
 obtain ⟨rfl, _, _⟩ := he
 exact hr

/-- the part of a slice, spelt as one likes -/
theorem Pure.sliceTo {x : Operand} {lo hi : Option Operand} {b off k cp sz o' len' cap' : Nat} {i j : Int} {t e : TypeId} (ho : o.op = .slice t x lo hi none) (hx : ev l x = some (.slice (some ⟨b, off, none⟩) k cp)) (hu : P.underlying t = some (.slice e)) (hsz : csz P e = some sz)
  (hlo : match lo with | some p => ev l p = some (.int .i64 i) | none => i = 0) (hhi : match hi with | some p => ev l p = some (.int .i64 j) | none => j = k)
  (h0 : 0 ≤ i) (h1 : i ≤ j) (h2 : j ≤ cp) (hk : k ≤ cp) (ho' : (if cp = i.toNat then off else off + i.toNat * sz) = o') (hl : j.toNat - i.toNat = len') (hc : cp - i.toNat = cap') : Pure P n W w0 l m o (.slice (some ⟨b, o', none⟩) len' cap') := by
 have h := Pure.sliceSl (n := n) (W := W) (w0 := w0) (m := m) ho hx hu hsz hlo hhi h0 h1 h2 hk
 rw [hl, hc] at h
 subst ho'
 split at h <;> simp_all

/-- two effects may come up now: either order -/
theorem OkH.eff2 {mS : List Res} {fuel : Nat} {listed : List Bool} (i j : Nat) {oi oj : Oper} {X Y : Type} {φ : X → Prop} {ψ : Y → Prop} {l' : X → List (Nat × Value)} {m' : X → List Res} {l'' : Y → List (Nat × Value)} {m'' : Y → List Res} {listed' listed'' : List Bool} (hi : ops[i]? = some oi) (hj : ops[j]? = some oj) (hgi : oi.guard = none) (hgj : oj.guard = none)
  (hr : Region.ready .any ops listed.toArray = [i, j]) (hl : setB listed i = listed') (hl2 : setB listed j = listed'')
  (is : List Nat) (hsel : ∀ x, selM (m' x) is = mS) (hasc : nod is = true) (he : Eff P n W w0 l m oi Q X φ l' m') (js : List Nat) (hsel2 : ∀ x, selM (m'' x) js = mS) (hasc2 : nod js = true) (he2 : Eff P n W w0 l m oj Q Y ψ l'' m'')
  (h : ∀ x, φ x → OkH P n W w0 mS ops Q fuel listed' (l' x) (m' x)) (h2 : ∀ x, ψ x → OkH P n W w0 mS ops Q fuel listed'' (l'' x) (m'' x)) : OkH P n W w0 mS ops Q (fuel + 1) listed l m := by
 intro a w st
 refine wpAnyH_all hr (by simp) fun k hk => ?_
 rcases (by simpa using hk : k = i ∨ k = j) with rfl | rfl
 ·
  unfold wpOp
  simp only [hi]
  rw [if_pos (by simp [Region.wanted, hgi])]
  refine .inl (he a w _ st fun x hx a' w' st' => ⟨⟨hsel x ▸ st'.mem.sel is hasc, st'.keeps⟩, ?_⟩)
  rw [← setB_eq, hl]
  exact h x hx a' w' st'
 ·
  unfold wpOp
  simp only [hj]
  rw [if_pos (by simp [Region.wanted, hgj])]
  refine .inl (he2 a w _ st fun x hx a' w' st' => ⟨⟨hsel2 x ▸ st'.mem.sel js hasc2, st'.keeps⟩, ?_⟩)
  rw [← setB_eq, hl2]
  exact h2 x hx a' w' st'

theorem run_sliceBoundK (P : Program) (w : World) {k : IntKind} {i : Int} {y : Nat} (c : BoundsCode) (h0 : 0 ≤ i) (h1 : i ≤ y) : (Instr.sliceBound (.int k i) y c).run P w = .ok i.toNat w := by
 simp [Instr.sliceBound, asIntOf, h0, h1]
/-- the part of a string between two bounds of whatever kind -/
theorem Pure.sliceS2 {x p q : Operand} {s r : List UInt8} {ki kj : IntKind} {i j : Int} {t : TypeId} (ho : o.op = .slice t x (some p) (some q) none) (hx : ev l x = some (str s)) (hu : P.underlying t = some .string)
  (hp : ev l p = some (.int ki i)) (hq : ev l q = some (.int kj j)) (h0 : 0 ≤ i) (h1 : i ≤ j) (h2 : j ≤ s.length) (hr : (s.take j.toNat).drop i.toNat = r) : Pure P n W w0 l m o (str r) :=
 fun a w st => by
  subst hr
  have hj : 0 ≤ j := by omega
  have hij : i ≤ (j.toNat : Int) := by omega
  simp [execOp, ho, st.has.ev hx, st.has.ev hp, st.has.ev hq, str, Instr.sliceAt, Instr.slice, run_underlying hu, Instr.sliceBounds, str_size, run_sliceBoundK P w _ hj h2, run_sliceBoundK P w _ h0 hij, str_extract]
theorem Pure.quoN {x y : Operand} {k : IntKind} {p q r : Int} {t t' : TypeId} (ho : o.op = .binOp .quo t x y t') (hx : ev l x = some (.int k p)) (hy : ev l y = some (.int k q)) (h0 : 0 ≤ p) (h2 : 0 < q) (hr : k.wrap (p / q) = r) : Pure P n W w0 l m o (.int k r) :=
 fun a w st => by
  subst hr
  have e1 : p.tdiv q = p / q := Int.tdiv_eq_ediv_of_nonneg h0
  have e4 : ¬ q = 0 := by omega
  simp [execOp, ho, st.has.ev hx, st.has.ev hy, eqGuard, binOp, Op.intDiv, e4, e1]
theorem Pure.remN {x y : Operand} {k : IntKind} {p q r : Int} {t t' : TypeId} (ho : o.op = .binOp .rem t x y t') (hx : ev l x = some (.int k p)) (hy : ev l y = some (.int k q)) (h0 : 0 ≤ p) (h2 : 0 < q) (hr : p % q = r) : Pure P n W w0 l m o (.int k r) :=
 hr ▸ Pure.remI ho hx hy h0 h2 h2

/-- the part of a string, spelt as one likes -/
theorem Pure.sliceSTo {x : Operand} {lo hi : Option Operand} {s r : List UInt8} {i j : Int} {t : TypeId} (ho : o.op = .slice t x lo hi none) (hx : ev l x = some (str s)) (hu : P.underlying t = some .string)
 (hlo : match lo with | some p => ev l p = some (.int .i64 i) | none => i = 0) (hhi : match hi with | some p => ev l p = some (.int .i64 j) | none => j = s.length)
 (h0 : 0 ≤ i) (h1 : i ≤ j) (h2 : j ≤ s.length) (hr : (s.take j.toNat).drop i.toNat = r) : Pure P n W w0 l m o (str r) := hr ▸ Pure.sliceS ho hx hu hlo hhi h0 h1 h2

theorem bytesV_drop (s : List UInt8) (k : Nat) : (bytesV s).drop k = bytesV (s.drop k) := by simp [bytesV]
theorem bytesV_take (s : List UInt8) (k : Nat) : (bytesV s).take k = bytesV (s.take k) := by simp [bytesV]
end
end Go.SL
namespace Go.SL
open Go.RowKit
set_option linter.unusedVariables false
set_option linter.unusedSimpArgs false

section
variable {P : Program} {n : Nat} {W : Nat → Prop} {w0 : World} {l : List (Nat × Value)} {m : List Res} {ops : Array Oper} {Q : Exit → Act → World → Prop} {rest : List Oper} {o : Oper}

/-- the cells of a list of arrays of bytes -/
def idsV {k : Nat} : List (B k) → List Value
 | [] => []
 | b :: r => (flat [b.seg]).toList ++ idsV r

theorem seg_len {k : Nat} (b : B k) : (flat [b.seg]).toList.length = k := by simp [flat_size, width, Seg.n, B.seg]
theorem idsV_len {k : Nat} : ∀ xs : List (B k), (idsV xs).length = xs.length * k
 | [] => by simp [idsV]
 | b :: r => by rw [idsV, List.length_append, seg_len, idsV_len r, List.length_cons, Nat.succ_mul]; omega
theorem idsV_append {k : Nat} : ∀ xs ys : List (B k), idsV (xs ++ ys) = idsV xs ++ idsV ys
 | [], ys => rfl
 | b :: r, ys => by rw [List.cons_append, idsV, idsV, idsV_append r ys, List.append_assoc]
theorem idsV_one {k : Nat} : ∀ xs : List (B k), ∀ u ∈ idsV xs, u.oneCell' = true
 | [], u, h => by cases h
 | b :: r, u, h => by
  rw [idsV, List.mem_append] at h
  rcases h with h | h
  ·
   exact flat_one _ u h
  ·
   exact idsV_one r u h
theorem idsV_at {k : Nat} : ∀ (xs : List (B k)) (i : Nat) (b : B k), xs[i]? = some b → ∀ j v, (flat [b.seg]).toList[j]? = some v → (idsV xs)[i * k + j]? = some v
 | [], i, b, h, _, _, _ => by simp at h
 | c :: r, 0, b, h, j, v, hv => by
  simp at h; subst h
  rw [idsV, Nat.zero_mul, Nat.zero_add, List.getElem?_append_left (List.getElem?_eq_some_iff.1 hv).1]
  exact hv
 | c :: r, i + 1, b, h, j, v, hv => by
  rw [idsV, List.getElem?_append_right (by rw [seg_len, Nat.succ_mul]; omega), seg_len]
  have := idsV_at r i b (by simpa using h) j v hv
  rw [show (i + 1) * k + j - k = i * k + j by rw [Nat.succ_mul]; omega]
  exact this
theorem idsV_take {k : Nat} : ∀ (xs : List (B k)) (i : Nat), (idsV xs).take (i * k) = idsV (xs.take i)
 | [], i => by simp [idsV]
 | b :: r, 0 => by simp [idsV]
 | b :: r, i + 1 => by
  rw [List.take_succ_cons, idsV, idsV, ← idsV_take r i, List.take_append, seg_len, List.take_of_length_le (by rw [seg_len, Nat.succ_mul]; omega)]
  congr 2
  rw [Nat.succ_mul]; omega

/-- the range of one of them -/
theorem RC.id {k : Nat} {w : World} {b off : Nat} {xs : List (B k)} (hc : ∀ j x, (idsV xs)[j]? = some x → w.cell? ⟨b, off + j, none⟩ = some x) {i : Nat} {c : B k} (hi : xs[i]? = some c) : w.rangeAt b (off + i * k) (flat [c.seg]).toList := by
 intro j v hj
 rw [Nat.add_assoc]
 exact hc _ _ (idsV_at xs i c hi j v hj)

/-- a slice literal of one array -/
theorem Eff.buildSlice1A {t e : TypeId} {d sz : Nat} {x : Operand} {v : Value} {q zs : List Seg} (ho : o.op = .buildSlice t 1 #[(0, x)]) (hx : ev l x = some v) (hq : v.cells = flat q) (hw : width q = sz) (ht : P.underlying t = some (.slice e)) (hsz : csz P e = some sz) (hz : zcells P e = some (flat zs)) (hzw : width zs = sz) (h0 : 0 < sz) (h24 : sz ≤ 1024) (hd : o.dst = some d) (hdn : Nat.ble (d + 1) n = true) :
  Eff P n W w0 l m o Q Nat (fun _ => True) (fun g => (d, .slice (some ⟨g, 0, none⟩) 1 1) :: l) (fun g => .row (.slice (some ⟨g, 0, none⟩) 1 1) e sz 1 (flat q).toList :: m) := by
 intro a w K st h
 have hrun : (Instr.buildSlice t 1 #[(0, v)]).run P w = .ok (.slice (some ⟨w.heap.size, 0, none⟩) 1 1) (w.alloc (.cells (flat q) e (0, 0))) := by
  obtain ⟨zv, hzv, hzc⟩ := run_zeroValue hz w
  have hcs : v.cells.size = sz := by rw [hq, flat_size, hw]
  have hzz : ((Array.range (1 * sz)).map (zv.cells[· % zv.cells.size]!)).size = sz := by simp
  have hfill : Instr.fill (fun i => some (i * sz, sz)) ((Array.range (1 * sz)).map (zv.cells[· % zv.cells.size]!)) [(0, v)] = some (flat q) := by
   unfold Instr.fill
   simp only [Nat.zero_mul]
   rw [if_neg (by rw [hcs, hzz]; simp)]
   have := foldl_zipIdx 0 v.cells ((Array.range (1 * sz)).map (zv.cells[· % zv.cells.size]!)) (by rw [hcs, hzz]; omega)
   simp only [Nat.zero_add] at this ⊢
   rw [this]
   unfold Instr.fill
   rw [hcs, hzz, hq]
   congr 1
   apply Array.ext'
   simp
  have h2 : ¬ (1 * sz > 2 ^ 24) := by omega
  have h3 : ¬ (1 * sz = 0) := by omega
  simp only [Instr.buildSlice, Sem.run_bind, run_underlying ht, Result.andThen_ok, run_sizeOf hsz]
  simp only [Nat.one_mul] at hfill h2 h3 ⊢
  simp [h2, h3, hzv, hfill, newRow]
 have hr : (execOp a.eval o).run P w = .ok (.value (.slice (some ⟨w.heap.size, 0, none⟩) 1 1)) (w.alloc (.cells (flat q) e (0, 0))) := by
  simp [execOp, ho, st.has.ev hx, hrun]
 unfold Oper.wp
 rw [hr, Oper.upon_value, hd]
 refine h w.heap.size trivial _ _ ⟨st.has.put _ hdn, ?_, st.keeps.trans (Keeps.alloc W w _)⟩
 refine st.mem.cons_new (Keeps.alloc none1 w _) st.keeps.size ⟨by simp [flat_size, hw], .inr ⟨w.heap.size, 1, flat q, (0, 0), rfl, Nat.zero_le _, heap_alloc_new w _, Nat.zero_le _, Nat.le_refl _, by unfold maxLen; omega, by simp [flat_size, hw], ?_⟩⟩ (fun k hk => by simp [Res.block, Value.ownBlock] at hk; omega)
 rw [List.take_of_length_le]
 simp [flat_size, hw]

/-- an empty slice literal, of elements of whatever size -/
theorem Eff.buildSliceE0 {t e : TypeId} {d sz : Nat} (ho : o.op = .buildSlice t 0 #[]) (hd : o.dst = some d) (ht : P.underlying t = some (.slice e)) (hsz : csz P e = some sz) (hdn : Nat.ble (d + 1) n = true) (_h : True = True) :
  Eff P n W w0 l m o Q Nat (fun _ => True) (fun g => (d, .slice (some ⟨g, 0, none⟩) 0 0) :: l) (fun g => .row (.slice (some ⟨g, 0, none⟩) 0 0) e sz 0 [] :: m) := by
 intro a w K st h
 have hrun : (Instr.buildSlice t 0 #[]).run P w = .ok (.slice (some ⟨w.heap.size, 0, none⟩) 0 0) (w.alloc (.cells #[] e (0, 0))) := by
  have he : (Array.map (fun x => (default : Value)) (Array.range 0)) = #[] := by simp
  simp [Instr.buildSlice, run_underlying ht, run_sizeOf hsz, newRow, Instr.fill, he]
 have hr : (execOp a.eval o).run P w = .ok (.value (.slice (some ⟨w.heap.size, 0, none⟩) 0 0)) (w.alloc (.cells #[] e (0, 0))) := by
  simp [execOp, ho, hrun]
 unfold Oper.wp
 rw [hr, Oper.upon_value, hd]
 refine h w.heap.size trivial _ _ ⟨st.has.put _ hdn, ?_, st.keeps.trans (Keeps.alloc W w _)⟩
 exact st.mem.cons_new (Keeps.alloc none1 w _) st.keeps.size ⟨by simp, .inr ⟨w.heap.size, 0, #[], (0, 0), rfl, Nat.zero_le _, heap_alloc_new w _, Nat.zero_le _, Nat.le_refl _, by unfold maxLen; omega, by simp, by simp⟩⟩ (fun k hk => by simp [Res.block, Value.ownBlock] at hk; omega)

/-- a[:] of an array in memory -/
theorem Pure.sliceArr {x : Operand} {b k sz : Nat} {t e : TypeId} (ho : o.op = .slice t x none none none) (hx : ev l x = some (.pointer (some ⟨b, 0, none⟩))) (hu : P.underlying t = some (.array k e)) (hsz : csz P e = some sz) (hk : 0 < k) : Pure P n W w0 l m o (.slice (some ⟨b, 0, none⟩) k k) :=
 fun a w st => by
  have : ¬ k = 0 := by omega
  simp [execOp, ho, st.has.ev hx, Instr.sliceAt, Instr.slice, run_underlying hu, Instr.sliceBounds, run_sizeOf hsz, Instr.sureAddr, this, Addr.add]

/-- to know that a row's value is a slice, in a region whose order is drawn -/
theorem OkH.rowShapeH {mS : List Res} {fuel : Nat} {listed : List Bool} (i : Nat) {v : Value} {e : TypeId} {sz k : Nat} {xs : List Value} (hm : nth m i = some (.row v e sz k xs)) (h : (∃ p c, v = .slice p k c) → OkH P n W w0 mS ops Q fuel listed l m) : OkH P n W w0 mS ops Q fuel listed l m := fun a w st => by
 have hown : w.ownsRowF 0 e sz v k xs := by rw [nth_eq] at hm; exact st.mem.holds _ (List.mem_of_getElem? hm)
 exact h (row_shape hown) a w st

theorem OkH.rowAddrH {mS : List Res} {fuel : Nat} {listed : List Bool} (i : Nat) {v : Value} {e : TypeId} {sz k : Nat} {xs : List Value} (hm : nth m i = some (.row v e sz k xs)) (h : (∃ p c, v = .slice p k c ∧ k ≤ c) → OkH P n W w0 mS ops Q fuel listed l m) : OkH P n W w0 mS ops Q fuel listed l m := fun a w st => by
 have hown : w.ownsRowF 0 e sz v k xs := by rw [nth_eq] at hm; exact st.mem.holds _ (List.mem_of_getElem? hm)
 refine h ?_ a w st
 obtain ⟨q, c, he, _, hk, _⟩ := RC.row hown
 exact ⟨q, c, he, hk⟩
theorem Ok.rowSlice {K : Act → World → Prop} (i : Nat) {v : Value} {e : TypeId} {sz k : Nat} {xs : List Value} (hm : nth m i = some (.row v e sz k xs)) (h : (∃ p c, v = .slice p k c ∧ k ≤ c) → Ok n W w0 l m K) : Ok n W w0 l m K := fun a w st => by
 have hown : w.ownsRowF 0 e sz v k xs := by rw [nth_eq] at hm; exact st.mem.holds _ (List.mem_of_getElem? hm)
 refine h ?_ a w st
 obtain ⟨q, c, he, _, hk, _⟩ := RC.row hown
 exact ⟨q, c, he, hk⟩

theorem RC.ofB {k : Nat} {b : B k} {w : World} {B0 : Nat} {T : TypeId} {fz : Nat × Nat} (hb : w.heap[B0]? = some (.cells (flat [b.seg]) T fz)) (hk : k ≤ maxLen) : RC 1 w (some ⟨B0, 0, none⟩) k (bytesV b.l) := by
 refine ⟨by rw [bytesV_length, b.h]; omega, hk, .inr ⟨B0, 0, rfl, (Array.getElem?_eq_some_iff.1 hb).1, fun j x hx => ?_⟩⟩
 rw [Lib.cell_of_heap hb, Nat.zero_add]
 simpa [flat, B.seg, Seg.cs, byteA, bytesV] using hx
end
end Go.SL
namespace Go.SL
open Go.RowKit
set_option linter.unusedVariables false
set_option linter.unusedSimpArgs false

section
variable {P : Program} {n : Nat} {W : Nat → Prop} {w0 : World} {l : List (Nat × Value)} {m : List Res} {ops : Array Oper} {Q : Exit → Act → World → Prop} {rest : List Oper} {o : Oper}

def entE {α β : Type} (Kf : α → Value) (vf : β → Value) : List (α × β) → Nat → List MapEntry
 | [], _ => []
 | p :: r, i => { key := Kf p.1, val := vf p.2, born := i } :: entE Kf vf r (i + 1)
def findM {α β : Type} [DecidableEq α] : List (α × β) → α → Nat → Option (Nat × β)
 | [], _, _ => none
 | p :: r, a, i => if a = p.1 then some (i, p.2) else findM r a (i + 1)
theorem entE_append {α β : Type} (Kf : α → Value) (vf : β → Value) : ∀ (xs ys : List (α × β)) (i : Nat), entE Kf vf (xs ++ ys) i = entE Kf vf xs i ++ entE Kf vf ys (i + xs.length)
 | [], ys, i => rfl
 | p :: r, ys, i => by simp only [List.cons_append, entE, entE_append Kf vf r ys (i + 1), List.length_cons]; congr 3; omega
theorem findM_none {α β : Type} [DecidableEq α] : ∀ (kv : List (α × β)) (a : α) (i : Nat), findM kv a i = none ↔ ∀ p ∈ kv, p.1 ≠ a
 | [], a, i => by simp [findM]
 | p :: r, a, i => by
  rw [findM]
  by_cases h : a = p.1
  ·
   rw [if_pos h]; simp only [reduceCtorEq, List.mem_cons, forall_eq_or_imp, false_iff]; exact fun hh => hh.1 h.symm
  ·
   rw [if_neg h, findM_none r a (i + 1)]; simp only [List.mem_cons, forall_eq_or_imp]; exact ⟨fun hh => ⟨fun e => h e.symm, hh⟩, fun hh => hh.2⟩

/-- a key type whose values are read from α -/
structure KeyLike (P : Program) (k : TypeId) {α : Type} [DecidableEq α] (Kf : α → Value) : Prop where
 check : ∀ (w : World) (em : Bool) (a : α), (Instr.checkKey em 10000 k (Kf a)).run P w = .ok () w
 find : ∀ {β : Type} (vf : β → Value) (w : World) (a : α) (kv : List (α × β)), (Instr.findKey k (Kf a) (entE Kf vf kv 0)).run P w = .ok ((findM kv a 0).map fun p => (p.1, vf p.2)) w

theorem findNow_ent {α β : Type} [DecidableEq α] {Kf : α → Value} {vf : β → Value} {d : TypeDesc} (hs : ∀ a b, Instr.sameNow d (Kf a) (Kf b) = some (decide (a = b))) (a : α) : ∀ (kv : List (α × β)) (i : Nat), Instr.findNow d (Kf a) (entE Kf vf kv i) i = some ((findM kv a i).map fun p => (p.1, vf p.2))
 | [], i => rfl
 | p :: r, i => by
  unfold entE Instr.findNow findM
  simp only [hs]
  by_cases h : a = p.1
  ·
   simp [h]
  ·
   simp [h, findNow_ent hs a r (i + 1)]

theorem KeyLike.string {k : TypeId} (hk : P.underlying k = some .string) : KeyLike P k str where
 check w em a := MapKept.run_checkKey hk (by simp [MapKept.IsKey, str]) em 9999
 find vf w a kv := MapKept.run_findKey hk (findNow_ent (d := .string) (Kf := str) (fun a b => by
  simp only [Instr.sameNow, str]
  congr 1
  rw [Bool.eq_iff_iff, MapKept.bytes_beq]
  simp) a kv 0)
theorem KeyLike.u8 {k : TypeId} (hk : P.underlying k = some (.int .u8)) : KeyLike P k (fun x : UInt8 => Value.int .u8 x.toNat) where
 check w em a := MapKept.run_checkKey hk (by simp [MapKept.IsKey]) em 9999
 find vf w a kv := MapKept.run_findKey hk (findNow_ent (d := .int .u8) (Kf := fun x : UInt8 => Value.int .u8 x.toNat) (fun a b => by
  simp only [Instr.sameNow, if_true]
  congr 1
  rw [Bool.eq_iff_iff]
  simp [← UInt8.toNat_inj]
  omega) a kv 0)

theorem run_equalB {t e : TypeId} {k : Nat} (ht : P.underlying t = some (.array k e)) (he : P.underlying e = some (.int .u8)) (hsz : csz P e = some 1) (a b : B k) (w : World) :
  (Op.equal t (.agg (flat [a.seg])) (.agg (flat [b.seg]))).run P w = .ok (decide (a = b)) w := by
 have h : Op.equal t (.agg (flat [a.seg])) (.agg (flat [b.seg])) = Op.equalIn (9998 + 2) t (.agg (flat [a.seg])) (.agg (flat [b.seg])) := rfl
 rw [h, flat_seg, flat_seg, run_equalIn_bytes w 9998 t e k ht he (fun w => run_sizeOf hsz w) a.l b.l a.h b.h]
 congr 1
 rw [Bool.eq_iff_iff]
 simp
 exact ⟨fun h => B.ext h, fun h => by rw [h]⟩

theorem KeyLike.arr {t e : TypeId} {k : Nat} (ht : P.underlying t = some (.array k e)) (he : P.underlying e = some (.int .u8)) (hsz : csz P e = some 1) : KeyLike P t (fun b : B k => Value.agg (flat [b.seg])) where
  check w em a := by
    rw [flat_seg, show (10000 : Nat) = 9998 + 1 + 1 from rfl, Instr.checkKey]
    simp only [Sem.run_bind, run_underlying ht, Result.andThen_ok, run_sizeOf hsz, Std.Legacy.Range.forIn_eq_forIn_range', Std.Legacy.Range.size, Nat.sub_zero, Nat.add_sub_cancel, Nat.div_one]
    have hl : ∀ i ∈ List.range' 0 k 1, i < k := fun i hi => by simpa using (List.mem_range'_1.1 hi).2
    generalize List.range' 0 k 1 = l at hl ⊢
    induction l with
    | nil => simp
    | cons i l ih =>
      have hi : i < k := hl i (by simp)
      have px : (part e (a.l.map Extern.Stop.cell).toArray (i * 1)).run P w = .ok (Extern.Stop.cell (a.l.getD i 0)) w := by
        simp [part, isAgg, run_underlying he, List.getD, List.getElem?_eq_getElem (show i < a.l.length by rw [a.h]; exact hi)]
      have pe : (Instr.checkKey em (9998 + 1) e (Extern.Stop.cell (a.l.getD i 0))).run P w = .ok () w := MapKept.run_checkKey he (by simp [MapKept.IsKey, Extern.Stop.cell]) em 9998
      simp only [List.forIn_cons, Sem.run_bind, run_sizeOf hsz, px, pe, Result.andThen_ok, Sem.run_pure]
      exact ih fun j hj => hl j (by simp [hj])
  find vf w a kv := by
    have hask : ∀ (kv : List (B k × _)) (i : Nat), (Instr.findAsking t (Value.agg (flat [a.seg])) (entE (fun b : B k => Value.agg (flat [b.seg])) vf kv i) i).run P w = .ok ((findM kv a i).map fun p => (p.1, vf p.2)) w := by
      intro kv
      induction kv with
      | nil => intro i; simp [entE, findM, Instr.findAsking]
      | cons p r ih =>
        intro i
        simp only [entE, findM, Instr.findAsking, Sem.run_bind, run_equalB ht he hsz, Result.andThen_ok]
        by_cases h : a = p.1
        · simp [h]
        · simp [h, ih (i + 1)]
    unfold Instr.findKey
    simp only [Sem.run_bind, run_underlying ht, Result.andThen_ok]
    cases kv with
    | nil => simp [entE, Instr.findNow, findM]
    | cons p r =>
      have : Instr.findNow (.array k e) (Value.agg (flat [a.seg])) (entE (fun b : B k => Value.agg (flat [b.seg])) vf (p :: r) 0) 0 = none := by simp [entE, Instr.findNow, Instr.sameNow]
      rw [this]
      exact hask (p :: r) 0

abbrev mapO {α β : Type} (Kf : α → Value) (vf : β → Value) (kv : List (α × β)) : Obj := .map (entE Kf vf kv 0).toArray kv.length

theorem Eff.makeMap {t : TypeId} {d : Nat} (ho : o.op = .makeMap t none) (hd : o.dst = some d) (hdn : Nat.ble (d + 1) n = true) :
  Eff P n W w0 l m o Q Nat (fun _ => True) (fun b => (d, .map (some b)) :: l) (fun b => .blk b (.map #[] 0) :: m) := by
 intro a w K st h
 have hr : (execOp a.eval o).run P w = .ok (.value (.map (some w.heap.size))) (w.alloc (.map #[] 0)) := by
  simp [execOp, ho, run_makeMap]
 unfold Oper.wp
 rw [hr, Oper.upon_value, hd]
 refine h w.heap.size trivial _ _ ⟨st.has.put _ hdn, ?_, st.keeps.trans (Keeps.alloc W w _)⟩
 exact st.mem.cons_new (Keeps.alloc none1 w _) st.keeps.size (heap_alloc_new w _) (fun k hk => by simp [Res.block] at hk; omega)

theorem Eff.makeMapN {t k e : TypeId} {x : Operand} {i : Int} {d : Nat} (ho : o.op = .makeMap t (some x)) (hx : ev l x = some (.int .i64 i)) (ht : P.underlying t = some (.map k e)) (hd : o.dst = some d) (hdn : Nat.ble (d + 1) n = true) :
  Eff P n W w0 l m o Q Nat (fun _ => True) (fun b => (d, .map (some b)) :: l) (fun b => .blk b (.map #[] 0) :: m) := by
 intro a w K st h
 have hr : (execOp a.eval o).run P w = .ok (.value (.map (some w.heap.size))) (w.alloc (.map #[] 0)) := by
  have h1 : (Instr.makeMap t (some (.int .i64 i))).run P w = .ok (.map (some w.heap.size)) (w.alloc (.map #[] 0)) := by
   have := run_makeMap (P := P) t w
   simp only [Instr.makeMap, Sem.run_bind, run_underlying ht, Result.andThen_ok, asInt, Sem.run_pure] at this ⊢
   exact this
  simp [execOp, ho, st.has.ev hx, h1]
 unfold Oper.wp
 rw [hr, Oper.upon_value, hd]
 refine h w.heap.size trivial _ _ ⟨st.has.put _ hdn, ?_, st.keeps.trans (Keeps.alloc W w _)⟩
 exact st.mem.cons_new (Keeps.alloc none1 w _) st.keeps.size (heap_alloc_new w _) (fun k hk => by simp [Res.block] at hk; omega)

def zeroV (P : Program) (e : TypeId) : Option Value := (P.info? e).bind (·.zero)
theorem run_zeroV {e : TypeId} {z : Value} (h : zeroV P e = some z) (w : World) : (zeroValue e).run P w = .ok z w := by
 unfold zeroV at h
 cases hi : P.info? e with
 | none => simp [hi] at h
 | some i => simp [hi] at h; simp [zeroValue, typeInfo, hi, h]

def look2 {β : Type} (vf : β → Value) (z : Value) : Option (Nat × β) → Value
 | some p => vf p.2
 | none => z
theorem run_lookupM {α β : Type} [DecidableEq α] {Kf : α → Value} {vf : β → Value} {kv : List (α × β)} {t k e : TypeId} {b : Nat} {z : Value} {w : World} (a : α) (K : KeyLike P k Kf) (ht : P.underlying t = some (.map k e)) (hz : zeroV P e = some z)
  (hb : w.heap[b]? = some (mapO Kf vf kv)) (c : Bool) : (Instr.lookup t (.map (some b)) (Kf a) c).run P w = .ok (if c then .tuple #[look2 vf z (findM kv a 0), .bool (findM kv a 0).isSome] else look2 vf z (findM kv a 0)) w := by
 have h := K.find vf w a kv
 unfold Instr.lookup
 simp only [Sem.run_bind, run_underlying ht, Result.andThen_ok, MapKept.run_getObj_map hb, K.check, Sem.run_pure, h]
 cases hf : findM kv a 0 with
 | none => cases c <;> simp [look2, run_zeroV hz, Result.andThen]
 | some p => cases c <;> simp [look2, Result.andThen]

theorem Pure.lookup {α β : Type} [DecidableEq α] {Kf : α → Value} {vf : β → Value} {kv : List (α × β)} {x y : Operand} {t k e : TypeId} {b : Nat} {z r : Value} (i : Nat) (a : α) (K : KeyLike P k Kf) (ho : o.op = .lookup t x y false) (hx : ev l x = some (.map (some b))) (hy : ev l y = some (Kf a))
  (ht : P.underlying t = some (.map k e)) (hz : zeroV P e = some z) (hm : nth m i = some (.blk b (mapO Kf vf kv))) (hr : look2 vf z (findM kv a 0) = r) : Pure P n W w0 l m o r :=
 fun c w st => by
  have := run_lookupM a K ht hz (st.mem.blk hm) false
  simp only [Bool.false_eq_true, if_false, hr] at this
  simp [execOp, ho, st.has.ev hx, st.has.ev hy, this]
theorem Pure.lookup2 {α β : Type} [DecidableEq α] {Kf : α → Value} {vf : β → Value} {kv : List (α × β)} {x y : Operand} {t k e : TypeId} {b : Nat} {z r : Value} {ok : Bool} (i : Nat) (a : α) (K : KeyLike P k Kf) (ho : o.op = .lookup t x y true) (hx : ev l x = some (.map (some b))) (hy : ev l y = some (Kf a))
  (ht : P.underlying t = some (.map k e)) (hz : zeroV P e = some z) (hm : nth m i = some (.blk b (mapO Kf vf kv))) (hr : look2 vf z (findM kv a 0) = r) (hok : (findM kv a 0).isSome = ok) : Pure P n W w0 l m o (.tuple [r, .bool ok].toArray) :=
 fun c w st => by
  have := run_lookupM a K ht hz (st.mem.blk hm) true
  simp only [if_true, hr, hok] at this
  simp [execOp, ho, st.has.ev hx, st.has.ev hy, this]

theorem run_mapPut {α β : Type} [DecidableEq α] {Kf : α → Value} {vf : β → Value} {kv : List (α × β)} {t k e : TypeId} {b : Nat} {w : World} (a : α) (v : β) (K : KeyLike P k Kf) (ht : P.underlying t = some (.map k e)) (hn : findM kv a 0 = none)
  (hb : w.heap[b]? = some (mapO Kf vf kv)) : (Instr.mapUpdate t (.map (some b)) (Kf a) (vf v)).run P w = .ok () (ChangeMaps.setBlock w b (mapO Kf vf (kv ++ [(a, v)]))) := by
 have h := K.find vf w a kv
 rw [hn] at h
 have he : (entE Kf vf kv 0).toArray.push { key := Kf a, val := vf v, born := kv.length } = (entE Kf vf (kv ++ [(a, v)]) 0).toArray := by
  rw [entE_append]; simp [entE]
 unfold Instr.mapUpdate
 simp only [Sem.run_bind, run_underlying ht, Result.andThen_ok, MapKept.run_getObj_map hb, K.check, h, Option.map_none]
 rw [MapKept.run_setObj_map _ hb, he]
 simp [ChangeMaps.setBlock, mapO]

theorem Eff.mapPut {α β : Type} [DecidableEq α] {Kf : α → Value} {vf : β → Value} {kv : List (α × β)} {x y z : Operand} {t k e : TypeId} {b : Nat} (i : Nat) (a : α) (v : β) (K : KeyLike P k Kf) (ho : o.op = .mapUpdate t x y z ∨ o.op = .insert t x y z) (hd : o.dst = none) (hx : ev l x = some (.map (some b))) (hy : ev l y = some (Kf a)) (hz : ev l z = some (vf v))
  (ht : P.underlying t = some (.map k e)) (hm : nth m i = some (.blk b (mapO Kf vf kv))) (hn : findM kv a 0 = none) :
  Eff P n W w0 l m o Q Unit (fun _ => True) (fun _ => l) (fun _ => setN m i (.blk b (mapO Kf vf (kv ++ [(a, v)])))) := by
 intro ac w KK st h
 have hb := st.mem.blk hm
 have hlt : b < w.heap.size := (Array.getElem?_eq_some_iff.1 hb).1
 have hr : (execOp ac.eval o).run P w = .ok .skip (ChangeMaps.setBlock w b (mapO Kf vf (kv ++ [(a, v)]))) := by
  rcases ho with ho | ho <;> simp [execOp, ho, st.has.ev hx, st.has.ev hy, st.has.ev hz, run_mapPut a v K ht hn hb]
 unfold Oper.wp
 rw [hr, Oper.upon_skip, hd]
 refine h () trivial _ _ ⟨st.has, ?_, ?_⟩
 ·
  exact st.mem.set hm (by simp [ChangeMaps.setBlock, hlt]) (by simp [ChangeMaps.setBlock]) (fun k hk _ => by simp [ChangeMaps.setBlock, Ne.symm hk])
 ·
  rw [nth_eq] at hm
  exact st.keeps.write (st.mem.may _ (List.mem_of_getElem? hm) b rfl) rfl rfl rfl (by simp [ChangeMaps.setBlock]) (fun k hk _ => by simp [ChangeMaps.setBlock, Ne.symm hk])
theorem Pure.indexSK {x y : Operand} {s : List UInt8} {ki : IntKind} {i : Int} {t : TypeId} {c : UInt8} (ho : o.op = .index t x y) (hx : ev l x = some (str s)) (hy : ev l y = some (.int ki i)) (hu : P.underlying t = some .string) (h0 : 0 ≤ i) (hc : s[i.toNat]? = some c) :
  Pure P n W w0 l m o (.int .u8 c.toNat) :=
 fun a w st => by
  have hget : (⟨s.toArray⟩ : ByteArray)[i.toNat]? = some c := by
   have hlt : i.toNat < s.length := (List.getElem?_eq_some_iff.1 hc).1
   have hlt' : i.toNat < (⟨s.toArray⟩ : ByteArray).size := by rw [str_size]; exact hlt
   rw [getElem?_pos (⟨s.toArray⟩ : ByteArray) i.toNat hlt']
   have : (⟨s.toArray⟩ : ByteArray)[i.toNat] = s[i.toNat] := rfl
   rw [this]
   rw [List.getElem?_eq_getElem hlt] at hc
   exact hc
  simp [execOp, ho, st.has.ev hx, st.has.ev hy, str, Instr.index, asIntOf, run_underlying hu, h0, hget]

end
end Go.SL
namespace Go.SL
open Go.RowKit
set_option linter.unusedVariables false
set_option linter.unusedSimpArgs false

section
variable {P : Program} {n : Nat} {W : Nat → Prop} {w0 : World} {l : List (Nat × Value)} {m : List Res} {ops : Array Oper} {Q : Exit → Act → World → Prop} {rest : List Oper} {o : Oper}

theorem Pure.makeFuncC {fn : Fn} {xs : List Operand} {vs : List Value} (ho : o.op = .makeFunc fn #[] xs.toArray) (hx : evs l xs = some vs) : Pure P n W w0 l m o (.func fn #[] vs.toArray) :=
 fun a w st => by simp [execOp, ho, Instr.makeFunc, st.has.evs hx]

theorem Pure.eqSlNil {x y : Operand} {t t' e : TypeId} {a : Option Addr} {k c : Nat} (ho : o.op = .binOp .eql t x y t') (hx : ev l x = some (.slice a k c)) (hy : ev l y = some (.slice none 0 0)) (ht : P.underlying t = some (.slice e)) : Pure P n W w0 l m o (.bool a.isNone) :=
 fun ac w st => by
  have h1 : (binOp .eql t (.slice a k c) (.slice none 0 0)).run P w = .ok (.bool a.isNone) w := by
   simp only [binOp]
   simp [run_equal_slice_nil w t e a k c ht]
  simp [execOp, ho, st.has.ev hx, st.has.ev hy, eqGuard, h1]

theorem and_mask (v k : Nat) (hv : v < 9223372036854775808) (hk : k < 63) : IntKind.i64.wrap (BitVec.ofInt IntKind.i64.bits (v : Int) &&& BitVec.ofInt IntKind.i64.bits ((2 ^ k - 1 : Nat) : Int)).toNat = ((v % 2 ^ k : Nat) : Int) := by
 have hp : 2 ^ k ≤ 2 ^ 62 := Nat.pow_le_pow_right (by decide) (by omega)
 have e : (BitVec.ofInt 64 (v : Int) &&& BitVec.ofInt 64 ((2 ^ k - 1 : Nat) : Int)).toNat = v % 2 ^ k := by
  rw [BitVec.toNat_and, BitVec.toNat_ofInt, BitVec.toNat_ofInt]
  have h1 : ((v : Int) % ((2 ^ 64 : Nat) : Int)).toNat = v := by omega
  have h2 : (((2 ^ k - 1 : Nat) : Int) % ((2 ^ 64 : Nat) : Int)).toNat = 2 ^ k - 1 := by omega
  rw [h1, h2, Nat.and_two_pow_sub_one_eq_mod]
 show IntKind.i64.wrap ((BitVec.ofInt 64 (v : Int) &&& BitVec.ofInt 64 ((2 ^ k - 1 : Nat) : Int)).toNat : Int) = _
 rw [e, IntKind.wrap_i64]
 have := Nat.mod_lt v (Nat.two_pow_pos k)
 omega
theorem fdiv_pow (v k : Nat) (hk : k < 64) (kd : IntKind) (hb : kd.bits = 64) : Int.fdiv (v : Int) (2 ^ (min (Int.toNat (k : Int)) kd.bits)) = ((v / 2 ^ k : Nat) : Int) := by
 have e1 : min (Int.toNat (k : Int)) kd.bits = k := by rw [hb]; omega
 have e3 : (2 : Int) ^ k = ((2 ^ k : Nat) : Int) := by simp
 rw [e1, e3, Int.fdiv_eq_ediv_of_nonneg _ (Int.natCast_nonneg _)]
 rfl
theorem shl_pow (v k : Nat) (hk : k < 64) (h : v * 2 ^ k < 9223372036854775808) : IntKind.i64.wrap ((v : Int) * 2 ^ (min (Int.toNat (k : Int)) IntKind.i64.bits)) = ((v * 2 ^ k : Nat) : Int) := by
 have e1 : min (Int.toNat (k : Int)) IntKind.i64.bits = k := by simp [IntKind.bits]; omega
 have e3 : (2 : Int) ^ k = ((2 ^ k : Nat) : Int) := by simp
 rw [e1, e3, ← Int.natCast_mul, IntKind.wrap_i64]
 omega
end
end Go.SL
namespace Go.SL
open Go.RowKit
set_option linter.unusedVariables false
set_option linter.unusedSimpArgs false

/-- the very last waits for the one ahead of it, and for earlier ones alone -/
def lastB2 (md : Region.Mode) (k : Nat) (p : Oper) : Bool := (p.after.any fun e => Region.binds md e && decide (e.on = k)) && p.after.all fun e => !Region.binds md e || decide (e.on ≤ k)

section
variable {P : Program} {md : Region.Mode} {C : World → Prop} {hs : List Oper} {o p : Oper} {Q : Exit → Act → World → Prop}

theorem pp_lt (lh : Array Bool) (d : Bool) {i : Nat} (h : i < lh.size) : ((lh.push false).push false).getD i d = lh.getD i d := by
 have h1 : i ≠ lh.size := by omega
 have h2 : i ≠ lh.size + 1 := by omega
 simp [Array.getElem?_push, h, h1, h2]
theorem pp_at (lh : Array Bool) (d : Bool) : ((lh.push false).push false).getD lh.size d = false := by
 have h2 : lh.size ≠ lh.size + 1 := by omega
 simp [Array.getElem?_push]
theorem pp_at1 (lh : Array Bool) (d : Bool) : ((lh.push false).push false).getD (lh.size + 1) d = false := by
 have h : ((lh.push false).push false)[lh.size + 1]? = some false := by
  have h := Array.getElem?_push_size (xs := lh.push false) (x := false)
  rwa [Array.size_push] at h
 rw [Array.getD_eq_getD_getElem?, h]
 rfl
theorem set_at (a : Array Bool) (d : Bool) {i : Nat} (h : i < a.size) : (a.setIfInBounds i true).getD i d = true := by
 simp [Array.getElem?_setIfInBounds, h]

theorem yielded_head2 (hs : List Oper) (o p : Oper) (tmps : Array Value) {g : Nat} (hg : g < hs.length) : yielded (hs ++ [o, p]).toArray tmps g = yielded hs.toArray tmps g := by
 unfold yielded
 simp [List.getElem?_append_left hg]

theorem quiet_last2 (hL : lastB md hs o = true) (hg : o.guard = none) (hP : lastB2 md hs.length p = true) (hgp : p.guard = none) : ∀ (fuel : Nat) (lh : Array Bool) (a : Act) (w : World), lh.size = hs.length → (∀ j x, hs[j]? = some x → lh.getD j false = true → ∀ e ∈ x.after, Region.binds md e = true → lh.getD e.on false = true) → C w →
    wpAnyQ P md hs.toArray C (fun a' => ∀ w', C w' → ∀ K : Act → World → Prop, (∀ a w, Q .normal a w → K a w) → o.wp P a' w' (fun a w => p.wp P a w K Q) Q) fuel lh a → wpAny P md (hs ++ [o, p]).toArray Q (fuel + 2) ((lh.push false).push false) a w := by
  simp only [lastB, Bool.and_eq_true] at hL
  obtain ⟨⟨⟨hL1, hL2⟩, hL3⟩, hL4⟩ := hL
  simp only [lastB2, Bool.and_eq_true] at hP
  obtain ⟨hP1, hP2⟩ := hP
  -- what is ready
  have hlast : ∀ (lh : Array Bool), lh.size = hs.length → (∀ j x, hs[j]? = some x → lh.getD j false = true → ∀ e ∈ x.after, Region.binds md e = true → lh.getD e.on false = true) → hs.length ∈ Region.ready md (hs ++ [o, p]).toArray ((lh.push false).push false) → ∀ i, i < hs.length → lh.getD i true = true := by
    intro lh hsz hcl hr
    obtain ⟨_, x, hx, hall⟩ := mem_ready.1 hr
    have hxo : x = o := by simp at hx; exact hx.symm
    subst hxo
    have key : ∀ (d i : Nat), hs.length - i = d → i < hs.length → lh.getD i false = true := by
      intro d
      induction d using Nat.strongRecOn with
      | _ d ih =>
        intro i hd hi
        have h1 := List.all_eq_true.1 hL2 i (List.mem_range.2 hi)
        rw [Bool.or_eq_true] at h1
        rcases h1 with h1 | h1
        · obtain ⟨e, he, hb⟩ := Array.any_eq_true'.1 h1
          simp only [Bool.and_eq_true, decide_eq_true_eq] at hb
          have h2 := hall e he hb.1
          rw [hb.2] at h2
          rw [pp_lt lh false (show i < lh.size by omega)] at h2
          exact h2
        · obtain ⟨j, hj, hb⟩ := List.any_eq_true.1 h1
          have hjl := List.mem_range.1 hj
          simp only [Bool.and_eq_true, decide_eq_true_eq] at hb
          obtain ⟨hij, hb⟩ := hb
          rw [List.getElem?_eq_getElem hjl] at hb
          obtain ⟨e, he, hb'⟩ := Array.any_eq_true'.1 hb
          simp only [Bool.and_eq_true, decide_eq_true_eq] at hb'
          have h3 := ih (hs.length - j) (by omega) j rfl hjl
          have h4 := hcl j hs[j] (List.getElem?_eq_getElem hjl) h3 e he hb'.1
          rw [hb'.2] at h4
          exact h4
    intro i hi
    have h1 := key _ i rfl hi
    have h2 : i < lh.size := by omega
    simp [h2] at h1 ⊢
    exact h1
  have hhead : ∀ (lh : Array Bool), lh.size = hs.length → ∀ i, i < hs.length → (i ∈ Region.ready md (hs ++ [o, p]).toArray ((lh.push false).push false) ↔ i ∈ Region.ready md hs.toArray lh) := by
    intro lh hsz i hi
    have hi' : i < lh.size := by omega
    rw [mem_ready, mem_ready]
    have e1 : ((lh.push false).push false).getD i true = lh.getD i true := pp_lt lh true hi'
    have e2 : (hs ++ [o, p]).toArray[i]? = hs.toArray[i]? := by simp [List.getElem?_append_left hi]
    rw [e1, e2]
    refine and_congr Iff.rfl (exists_congr fun x => and_congr_right fun hx => ?_)
    refine forall_congr' fun e => forall_congr' fun he => forall_congr' fun hb => ?_
    have h1 := List.all_eq_true.1 hL1 i (List.mem_range.2 hi)
    have hx' : hs[i]? = some x := by simpa using hx
    rw [hx'] at h1
    simp only [Array.all_eq_true_iff_forall_mem] at h1
    have h2 := h1 e he
    simp only [hb, Bool.not_true, Bool.false_or, decide_eq_true_eq] at h2
    have h3 : e.on < lh.size := by omega
    rw [pp_lt lh false h3]
  have hlast2 : ∀ (lh : Array Bool), lh.size = hs.length → ¬ (hs.length + 1) ∈ Region.ready md (hs ++ [o, p]).toArray ((lh.push false).push false) := by
    intro lh hsz hr
    obtain ⟨_, x, hx, hall⟩ := mem_ready.1 hr
    have hxo : x = p := by simp at hx; exact hx.symm
    subst hxo
    obtain ⟨e, he, hb⟩ := Array.any_eq_true'.1 hP1
    simp only [Bool.and_eq_true, decide_eq_true_eq] at hb
    have h2 := hall e he hb.1
    rw [hb.2, ← hsz, pp_at] at h2
    cases h2
  have hbound : ∀ (lh : Array Bool), lh.size = hs.length → ∀ i, i ∈ Region.ready md (hs ++ [o, p]).toArray ((lh.push false).push false) → i < hs.length ∨ i = hs.length := by
    intro lh hsz i hi
    obtain ⟨_, x, hx, _⟩ := mem_ready.1 hi
    have := (Array.getElem?_eq_some_iff.1 hx).1
    simp at this
    rcases Nat.lt_or_ge i (hs.length + 1) with h | h
    · omega
    · have : i = hs.length + 1 := by omega
      subst this
      exact absurd hi (hlast2 lh hsz)
  have hklast : ∀ (lh : Array Bool), lh.size = hs.length → (∀ i, i < hs.length → lh.getD i true = true) → hs.length ∈ Region.ready md (hs ++ [o, p]).toArray ((lh.push false).push false) := by
    intro lh hsz hall
    refine mem_ready.2 ⟨by rw [← hsz]; exact pp_at lh true, o, by simp, fun e he hb => ?_⟩
    have h1 : e.on < hs.length := by
      simp only [Array.all_eq_true_iff_forall_mem] at hL3
      have := hL3 e he
      simpa [hb] using this
    have h2 := hall e.on h1
    have h3 : e.on < lh.size := by omega
    rw [pp_lt lh false h3]
    simpa [h3] using h2
  have hnext : ∀ (lh : Array Bool), lh.size = hs.length → (∀ i, i < hs.length → lh.getD i true = true) → Region.ready md (hs ++ [o, p]).toArray (((lh.push false).push false).setIfInBounds hs.length true) ≠ [] ∧ ∀ j ∈ Region.ready md (hs ++ [o, p]).toArray (((lh.push false).push false).setIfInBounds hs.length true), j = hs.length + 1 := by
    intro lh hsz hall
    have hin : hs.length + 1 ∈ Region.ready md (hs ++ [o, p]).toArray (((lh.push false).push false).setIfInBounds hs.length true) := by
      refine mem_ready.2 ⟨?_, p, by simp, fun e he hb => ?_⟩
      · rw [getD_set_ne true (show hs.length ≠ hs.length + 1 by omega), ← hsz]; exact pp_at1 lh true
      · have h1 : e.on ≤ hs.length := by
          simp only [Array.all_eq_true_iff_forall_mem] at hP2
          have := hP2 e he
          simpa [hb] using this
        rcases Nat.lt_or_ge e.on hs.length with h | h
        · rw [getD_set_ne false (show hs.length ≠ e.on by omega), pp_lt lh false (by omega)]
          have := hall e.on h
          have h3 : e.on < lh.size := by omega
          simpa [h3] using this
        · have : e.on = hs.length := by omega
          rw [this]
          exact set_at _ _ (by simp; omega)
    refine ⟨fun h => by (rw [h] at hin; cases hin), fun j hj => ?_⟩
    obtain ⟨h0, x, hx, _⟩ := mem_ready.1 hj
    have hjl := (Array.getElem?_eq_some_iff.1 hx).1
    simp at hjl
    rcases Nat.lt_or_ge j hs.length with h | h
    · rw [getD_set_ne true (show hs.length ≠ j by omega), pp_lt lh true (by omega), hall j h] at h0
      cases h0
    · rcases Nat.lt_or_ge j (hs.length + 1) with h' | h'
      · have : j = hs.length := by omega
        rw [this, set_at _ _ (by simp; omega)] at h0
        cases h0
      · omega
  have hnone : ∀ (lh : Array Bool), lh.size = hs.length → (∀ i, i < hs.length → lh.getD i true = true) → Region.ready md (hs ++ [o, p]).toArray ((((lh.push false).push false).setIfInBounds hs.length true).setIfInBounds (hs.length + 1) true) = [] := by
    intro lh hsz hall
    apply List.eq_nil_iff_forall_not_mem.2
    intro j hj
    obtain ⟨h0, x, hx, _⟩ := mem_ready.1 hj
    have hjl := (Array.getElem?_eq_some_iff.1 hx).1
    simp at hjl
    rcases Nat.lt_or_ge j (hs.length + 1) with h' | h'
    · rw [getD_set_ne true (show hs.length + 1 ≠ j by omega)] at h0
      rcases Nat.lt_or_ge j hs.length with h | h
      · rw [getD_set_ne true (show hs.length ≠ j by omega), pp_lt lh true (by omega), hall j h] at h0
        cases h0
      · have : j = hs.length := by omega
        rw [this, set_at _ _ (by simp; omega)] at h0
        cases h0
    · have : j = hs.length + 1 := by omega
      rw [this, set_at _ _ (by simp; omega)] at h0
      cases h0
  have htake : ∀ (f : Nat) (lh : Array Bool) (a : Act) (w : World), lh.size = hs.length → C w → (∀ i, i < hs.length → lh.getD i true = true) →
      (∀ w', C w' → ∀ K : Act → World → Prop, (∀ a w, Q .normal a w → K a w) → o.wp P a w' (fun a w => p.wp P a w K Q) Q) → wpOp P (hs ++ [o, p]).toArray Q hs.length (wpAny P md (hs ++ [o, p]).toArray Q (f + 1) (((lh.push false).push false).setIfInBounds hs.length true)) a w := by
    intro f lh a w hsz hC hall hF
    unfold wpOp
    have ho : (hs ++ [o, p]).toArray[hs.length]? = some o := by simp
    simp only [ho]
    rw [if_pos (by simp [Region.wanted, hg])]
    refine .inl ?_
    refine Oper.wp_mono ?_ (hF w hC (wpAny P md (hs ++ [o, p]).toArray Q f ((((lh.push false).push false).setIfInBounds hs.length true).setIfInBounds (hs.length + 1) true)) fun a' w' hq => ?_)
    · intro a' w' hp
      obtain ⟨hne, hj⟩ := hnext lh hsz hall
      refine ⟨fun h0 => absurd h0 hne, fun j hjm => ?_⟩
      have hjj := hj j hjm
      subst hjj
      unfold wpOp
      have hpo : (hs ++ [o, p]).toArray[hs.length + 1]? = some p := by simp
      simp only [hpo]
      rw [if_pos (by simp [Region.wanted, hgp])]
      exact .inl hp
    · have hn := hnone lh hsz hall
      cases f with
      | zero => exact ⟨hn, hq⟩
      | succ f => exact ⟨fun _ => hq, fun i hi => by rw [hn] at hi; cases hi⟩
  have hop : ∀ (i : Nat) (a : Act) (w : World) (K : Act → Prop) (K' : Act → World → Prop), i < hs.length → C w → (∀ a' w', C w' → K a' → K' a' w') → qOp P hs.toArray C i K a → wpOp P (hs ++ [o, p]).toArray Q i K' a w := by
    intro i a w K K' hi hC hK hq
    unfold qOp at hq
    unfold wpOp
    have e1 : hs.toArray[i]? = some hs[i] := by simp [hi]
    have e2 : (hs ++ [o, p]).toArray[i]? = some hs[i] := by simp [List.getElem?_append_left hi]
    simp only [e1] at hq
    simp only [e2]
    have hw : Region.wanted hs[i] (yielded (hs ++ [o, p]).toArray a.tmps) = Region.wanted hs[i] (yielded hs.toArray a.tmps) := by
      have h4 := List.all_eq_true.1 hL4 hs[i] (List.getElem_mem hi)
      unfold Region.wanted
      cases hgg : hs[i].guard with
      | none => rfl
      | some gb =>
        obtain ⟨g, b⟩ := gb
        rw [hgg] at h4
        simp only [decide_eq_true_eq] at h4
        simp only [yielded_head2 hs o p a.tmps h4]
    rw [hw]
    split
    · rename_i hww
      simp only [hww, if_true] at hq
      exact .inl (Oper.wp_of_quiet hC hK hq)
    · rename_i hww
      simp only [hww] at hq
      exact hK _ _ hC hq
  intro fuel
  induction fuel with
  | zero =>
    intro lh a w hsz hcl hC hq
    have hall := ready_all hL1 hq.1
    refine ⟨fun h0 => ?_, fun i hi => ?_⟩
    · have := hklast lh hsz hall
      rw [h0] at this; cases this
    · rcases hbound lh hsz i hi with hlt | rfl
      · have := (hhead lh hsz i hlt).1 hi
        rw [hq.1] at this; cases this
      · exact htake 0 lh a w hsz hC hall hq.2
  | succ fuel ih =>
    intro lh a w hsz hcl hC hq
    refine ⟨fun h0 => ?_, fun i hi => ?_⟩
    · have hn : Region.ready md hs.toArray lh = [] := by
        apply List.eq_nil_iff_forall_not_mem.2
        intro j hj
        have hjl : j < hs.length := by
          obtain ⟨_, x, hx, _⟩ := mem_ready.1 hj
          have := (Array.getElem?_eq_some_iff.1 hx).1
          simpa using this
        have := (hhead lh hsz j hjl).2 hj
        rw [h0] at this; cases this
      have := hklast lh hsz (ready_all hL1 hn)
      rw [h0] at this; cases this
    · rcases hbound lh hsz i hi with hlt | rfl
      · have hr := (hhead lh hsz i hlt).1 hi
        refine hop i a w _ _ hlt hC (fun a' w' hC' hk => ?_) (hq.2 i hr)
        have hcl' : ∀ j x, hs[j]? = some x → (lh.setIfInBounds i true).getD j false = true → ∀ e ∈ x.after, Region.binds md e = true → (lh.setIfInBounds i true).getD e.on false = true := by
          intro j x hx hl e he hb
          by_cases hij : i = j
          · subst hij
            obtain ⟨_, y, hy, hall⟩ := mem_ready.1 hr
            have : y = x := by simp at hy; rw [hx] at hy; exact (Option.some.inj hy).symm
            subst this
            exact getD_set_true (hall e he hb)
          · rw [getD_set_ne false hij] at hl
            exact getD_set_true (hcl j x hx hl e he hb)
        have := ih (lh.setIfInBounds i true) a' w' (by simp [hsz]) hcl' hC' hk
        have e : ((lh.setIfInBounds i true).push false).push false = ((lh.push false).push false).setIfInBounds i true := by
          apply Array.ext'
          have : i < lh.toList.length := by simpa using (show i < lh.size by omega)
          simp only [Array.toList_push, Array.toList_setIfInBounds]
          rw [List.set_append_left _ _ (by simp at this ⊢; omega), List.set_append_left _ _ this]
        rwa [e] at this
      · have hall := hlast lh hsz hcl hi
        have hn : Region.ready md hs.toArray lh = [] := by
          apply List.eq_nil_iff_forall_not_mem.2
          intro j hj
          obtain ⟨h0, x, hx, _⟩ := mem_ready.1 hj
          have hjl := (Array.getElem?_eq_some_iff.1 hx).1
          have := hall j (by simpa using hjl)
          rw [h0] at this; cases this
        exact htake (fuel + 1) lh a w hsz hC hall (hq.1 hn)


theorem region_quiet_last2 {id : Nat} {a : Act} {w : World} (hm : P.follows .mixedOrders = true) (hB : Region.lexB .any hs.toArray = true) (hL : lastB .any hs o = true) (hg : o.guard = none) (hP : lastB2 .any hs.length p = true) (hgp : p.guard = none) (hC : C { w with drawn := w.drawn + 1 })
  (h : wpQuiet P hs.toArray C (fun a' => ∀ w', C w' → ∀ K : Act → World → Prop, (∀ a w, Q .normal a w → K a w) → o.wp P a' w' (fun a w => p.wp P a w K Q) Q) hs a) : (Code.region id (hs ++ [o, p]).toArray true).wp P Q a w := by
 simp only [Region.lexB, Bool.and_eq_true] at hB
 refine wp_region_any hm ?_
 have h1 := wpAnyQ_lex (C := C) (md := .any) hB.1 hs 0 (Array.replicate hs.toArray.size false) a (by simp) (by simpa using hB.2) h
 have h2 := quiet_last2 (Q := Q) (md := .any) hL hg hP hgp hs.length (Array.replicate hs.length false) a { w with drawn := w.drawn + 1 } (by simp) (fun j x hx hl => by rw [getD_replicate_false] at hl; cases hl) hC (by simpa using h1)
 have e : ((Array.replicate hs.length false).push false).push false = Array.replicate (hs.length + 2) false := by
  apply Array.ext'
  simp [List.replicate_succ']
 rw [e] at h2
 simpa using h2
end

section
variable {P : Program} {n : Nat} {W : Nat → Prop} {w0 : World} {l : List (Nat × Value)} {m : List Res} {ops : Array Oper} {Q : Exit → Act → World → Prop} {rest : List Oper} {o p : Oper}
/-- .. all but the last two -/
theorem Ok.quietLast2 {id : Nat} {os hs : List Oper} {o p : Oper} (k : Nat) (hh : os.take k = hs) (ht : os.drop k = [o, p]) (hm : P.follows .mixedOrders = true) (hB : Region.lexB .any hs.toArray = true) (hL : lastB .any hs o = true) (hg : o.guard = none) (hP : lastB2 .any hs.length p = true) (hgp : p.guard = none)
  (h : OkQ P n W w0 l m hs.toArray (fun a' => ∀ w', Mem W w0 m w' ∧ Keeps W w0 w' → ∀ K : Act → World → Prop, (∀ a w, Q .normal a w → K a w) → o.wp P a' w' (fun a w => p.wp P a w K Q) Q) hs) : Ok n W w0 l m ((Code.region id os.toArray true).wp P Q) := by
 intro a w st
 have st' := st.keep (Keeps.drew none1 w)
 have e : os = hs ++ [o, p] := by rw [← hh, ← ht, List.take_append_drop]
 subst e
 exact region_quiet_last2 (C := fun w => Mem W w0 m w ∧ Keeps W w0 w) hm hB hL hg hP hgp ⟨st'.mem, st'.keeps⟩ (h a st.has)
theorem OkQ.last2 {X : Type} {φ : X → Prop} {l' : X → List (Nat × Value)} {m' : X → List Res} {l'' : X → List (Nat × Value)} {m'' : X → List Res} (he : Eff P n W w0 l m o Q X φ l' m') (hp : ∀ x, φ x → Eff P n W w0 (l' x) (m' x) p Q Unit (fun _ => True) (fun _ => l'' x) (fun _ => m'' x)) (h : ∀ x, φ x → Ok n W w0 (l'' x) (m'' x) (Q .normal)) :
  OkQ P n W w0 l m ops (fun a' => ∀ w', Mem W w0 m w' ∧ Keeps W w0 w' → ∀ K : Act → World → Prop, (∀ a w, Q .normal a w → K a w) → o.wp P a' w' (fun a w => p.wp P a w K Q) Q) [] :=
 fun a ha w' hw' K hK => he a w' _ ⟨ha, hw'.1, hw'.2⟩ fun x hx a'' w'' st' => hp x hx a'' w'' K st' fun _ _ a3 w3 st3 => hK a3 w3 (h x hx a3 w3 st3)
end
end Go.SL
namespace Go.SL
open Go.RowKit
set_option linter.unusedVariables false
set_option linter.unusedSimpArgs false

abbrev FR (ro : Option Nat) : Fence := { Fence.wide with round := ro }
/-- a claim at the same activation with other deferred calls -/
def dK (ds : List Deferred) (K : Act → World → Prop) : Act → World → Prop := fun a w => K { a with defers := ds } w

section
variable {P : Program} {n : Nat} {W : Nat → Prop} {w0 : World} {l : List (Nat × Value)} {m : List Res} {ops : Array Oper} {Q : Exit → Act → World → Prop} {rest : List Oper} {o : Oper} {ro : Option Nat} {ds : List Deferred}

theorem callsI {f : FuncId} {args : Array Value} {w : World} {R : Ending → World → Prop} (h : Calls P f args w R) : CallsIn (FR ro) 0 P f args w R := by
 have h2 : CallsIn Fence.wide 0 P f args w R := callsIn_wide.2 h
 cases ro with
 | none => exact h2
 | some l => exact CallsIn.inRound l h2

theorem Ok.seqI {x y : Code} (h : ∀ K : Act → World → Prop, (∀ ds W w0 l m, Ok n W w0 l m (dK ds (y.wpIn (FR ro) 0 P Q)) → Ok n W w0 l m (dK ds K)) → Ok n W w0 l m (dK ds (x.wpIn (FR ro) 0 P (Exit.then K Q)))) : Ok n W w0 l m (dK ds ((Code.seq x y).wpIn (FR ro) 0 P Q)) :=
 fun a w st => wpIn_seq_k fun K hK => h K (fun _ _ _ _ _ hy a w st => hK _ _ (hy a w st)) a w st
theorem Ok.skipI' (h : Ok n W w0 l m (dK ds (Q .normal))) : Ok n W w0 l m (dK ds (Code.skip.wpIn (FR ro) 0 P Q)) := fun a w st => wpIn_skip (h a w st)
theorem evD {ds : List Deferred} {a : Act} {x : Operand} : ({ a with defers := ds } : Act).eval x = a.eval x := by cases x <;> rfl
theorem Ok.condI {c : Operand} {x y : Code} {t : Bool} (hc : ev l c = some (.bool t)) (ht : t = true → Ok n W w0 l m (dK ds (x.wpIn (FR ro) 0 P Q))) (hf : t = false → Ok n W w0 l m (dK ds (y.wpIn (FR ro) 0 P Q))) : Ok n W w0 l m (dK ds ((Code.cond c x y).wpIn (FR ro) 0 P Q)) :=
 fun a w st => wpIn_cond_split (by rw [evD]; exact st.has.ev hc) (fun h => ht h a w st) (fun h => hf h a w st)
theorem Ok.condIT {c : Operand} {x y : Code} (hc : ev l c = some (.bool true)) (ht : Ok n W w0 l m (dK ds (x.wpIn (FR ro) 0 P Q))) : Ok n W w0 l m (dK ds ((Code.cond c x y).wpIn (FR ro) 0 P Q)) :=
 fun a w st => wpIn_cond_true (by rw [evD]; exact st.has.ev hc) (ht a w st)
theorem Ok.condIF {c : Operand} {x y : Code} (hc : ev l c = some (.bool false)) (hf : Ok n W w0 l m (dK ds (y.wpIn (FR ro) 0 P Q))) : Ok n W w0 l m (dK ds ((Code.cond c x y).wpIn (FR ro) 0 P Q)) :=
 fun a w st => wpIn_cond_false (by rw [evD]; exact st.has.ev hc) (hf a w st)
theorem Ok.condIT' {c : Operand} {x y : Code} {t : Bool} (hc : ev l c = some (.bool t)) (ht : t = true) (h : Ok n W w0 l m (dK ds (x.wpIn (FR ro) 0 P Q))) : Ok n W w0 l m (dK ds ((Code.cond c x y).wpIn (FR ro) 0 P Q)) := Ok.condIT (ht ▸ hc) h
theorem Ok.condIF' {c : Operand} {x y : Code} {t : Bool} (hc : ev l c = some (.bool t)) (ht : t = false) (h : Ok n W w0 l m (dK ds (y.wpIn (FR ro) 0 P Q))) : Ok n W w0 l m (dK ds ((Code.cond c x y).wpIn (FR ro) 0 P Q)) := Ok.condIF (ht ▸ hc) h
theorem Ok.blockI {id : Nat} {c : Code} (h : Ok n W w0 l m (dK ds (c.wpIn (FR ro) 0 P (Exit.inBlock id Q)))) : Ok n W w0 l m (dK ds ((Code.block id c).wpIn (FR ro) 0 P Q)) := fun a w st => wpIn_block (h a w st)
theorem Ok.exitI {id : Nat} (h : Ok n W w0 l m (dK ds (Q (.exit id)))) : Ok n W w0 l m (dK ds ((Code.exit id).wpIn (FR ro) 0 P Q)) := fun a w st => wpIn_exit (h a w st)
theorem Ok.retGoI (h : Ok n W w0 l m (dK ds (Q .ret))) : Ok n W w0 l m (dK ds (Code.ret.wpIn (FR ro) 0 P Q)) := fun a w st => wpIn_ret (h a w st)
theorem Ok.regionI {id : Nat} {os : List Oper} (h : Ok n W w0 l m (dK ds (wpListIn (FR ro) 0 P os.toArray Q os))) : Ok n W w0 l m (dK ds ((Code.region id os.toArray false).wpIn (FR ro) 0 P Q)) := fun a w st => wpIn_region_lit (h a w st)
theorem Ok.nilI (h : Ok n W w0 l m (dK ds (Q .normal))) : Ok n W w0 l m (dK ds (wpListIn (FR ro) 0 P ops Q [])) := fun a w st => wpListIn_nil (h a w st)
theorem Ok.normBlockI {id : Nat} (h : Ok n W w0 l m (dK ds (Q .normal))) : Ok n W w0 l m (dK ds (Exit.inBlock id Q .normal)) := h
theorem Ok.normThenI {K : Act → World → Prop} (h : Ok n W w0 l m (dK ds K)) : Ok n W w0 l m (dK ds (Exit.then K Q .normal)) := h
theorem Ok.exThenI {id : Nat} {K : Act → World → Prop} (h : Ok n W w0 l m (dK ds (Q (.exit id)))) : Ok n W w0 l m (dK ds (Exit.then K Q (.exit id))) := h
theorem Ok.exHereI {id : Nat} (h : Ok n W w0 l m (dK ds (Q .normal))) : Ok n W w0 l m (dK ds (Exit.inBlock id Q (.exit id))) := by
 intro a w st; have := h a w st; unfold dK at this ⊢; simpa [Exit.inBlock] using this
theorem Ok.exOtherI {id id' : Nat} (hne : Nat.beq id id' = false) (h : Ok n W w0 l m (dK ds (Q (.exit id)))) : Ok n W w0 l m (dK ds (Exit.inBlock id' Q (.exit id))) := by
 intro a w st; have := h a w st; unfold dK at this ⊢
 have hn : id ≠ id' := fun e => by subst e; simp at hne
 simpa [Exit.inBlock, hn] using this
theorem Ok.rtThenI {K : Act → World → Prop} (h : Ok n W w0 l m (dK ds (Q .ret))) : Ok n W w0 l m (dK ds (Exit.then K Q .ret)) := h
theorem Ok.rtBlockI {id : Nat} (h : Ok n W w0 l m (dK ds (Q .ret))) : Ok n W w0 l m (dK ds (Exit.inBlock id Q .ret)) := h

/-- what an operation that never defers comes to, wherever it stands -/
theorem wpIn_of_value {a : Act} {w w' : World} {v : Value} {K : Act → World → Prop} (hr : (execOp a.eval o).run P w = .ok (.value v) w') (hnd : ∀ c, o.op ≠ .defer c) (h : K (({ a with defers := ds } : Act).put o.dst v) w') : o.wpIn (FR ro) 0 P { a with defers := ds } w K Q := by
 refine ⟨fun f _ => trivial, ?_⟩
 have he : Oper.semAt (FR ro).round ({ a with defers := ds } : Act).eval o = execOp a.eval o := Oper.semAt_eq _ _ _ hnd
 rw [he, hr]
 exact h
theorem putD_defers {a : Act} {d : Option Tmp} {v : Value} : (({ a with defers := ds } : Act).put d v) = { (a.put d v) with defers := ds } := by cases d <;> rfl

theorem Ok.opI {d : Nat} {v : Value} (hg : o.guard = none) (hnd : ∀ c, o.op ≠ .defer c) (hd : o.dst = some d) (hdn : Nat.ble (d + 1) n = true) (hp : Pure P n W w0 l m o v) (h : Ok n W w0 ((d, v) :: l) m (dK ds (wpListIn (FR ro) 0 P ops Q rest))) : Ok n W w0 l m (dK ds (wpListIn (FR ro) 0 P ops Q (o :: rest))) := by
 intro a w st
 refine wpListIn_plain hg fun K hK => ?_
 refine wpIn_of_value (hp a w st) hnd (hK _ _ ?_)
 rw [putD_defers, hd]
 exact h _ _ (st.put v hdn)

theorem wantedD {g : Nat} {want c : Bool} {og : Oper} {dg : Nat} {a : Act} {w : World} (hg : o.guard = some (g, want)) (ho : ops[g]? = some og) (hd : og.dst = some dg) (hc : look l dg = some (.bool c)) (st : St n W w0 l m a w) : Region.wanted o (yielded ops ({ a with defers := ds } : Act).tmps) = (c == want) := wanted_of (a := a) hg ho hd hc st
theorem wantedUD {g : Nat} {want : Bool} {og : Oper} {dg : Nat} {a : Act} {w : World} (hg : o.guard = some (g, want)) (ho : ops[g]? = some og) (hd : og.dst = some dg) (hc : look l dg = some undef) (st : St n W w0 l m a w) : Region.wanted o (yielded ops ({ a with defers := ds } : Act).tmps) = false := wanted_un (a := a) hg ho hd hc st

theorem Ok.opGI {d g dg : Nat} {want c : Bool} {og : Oper} {v : Value} (hg : o.guard = some (g, want)) (ho : ops[g]? = some og) (hgd : og.dst = some dg) (hc : look l dg = some (.bool c)) (hcw : (c == want) = true) (hnd : ∀ c, o.op ≠ .defer c)
  (hd : o.dst = some d) (hdn : Nat.ble (d + 1) n = true) (hp : Pure P n W w0 l m o v) (h : Ok n W w0 ((d, v) :: l) m (dK ds (wpListIn (FR ro) 0 P ops Q rest))) : Ok n W w0 l m (dK ds (wpListIn (FR ro) 0 P ops Q (o :: rest))) := by
 intro a w st
 refine wpListIn_step fun K hK => ?_
 rw [if_pos (by rw [wantedD hg ho hgd hc st, hcw])]
 refine wpIn_of_value (hp a w st) hnd (hK _ _ ?_)
 rw [putD_defers, hd]
 exact h _ _ (st.put v hdn)
theorem Ok.opSI {d g dg : Nat} {want c : Bool} {og : Oper} (hg : o.guard = some (g, want)) (ho : ops[g]? = some og) (hgd : og.dst = some dg) (hc : look l dg = some (.bool c)) (hcw : (c == want) = false)
  (hd : o.dst = some d) (hdn : Nat.ble (d + 1) n = true) (h : Ok n W w0 ((d, undef) :: l) m (dK ds (wpListIn (FR ro) 0 P ops Q rest))) : Ok n W w0 l m (dK ds (wpListIn (FR ro) 0 P ops Q (o :: rest))) := by
 intro a w st
 refine wpListIn_step fun K hK => ?_
 rw [if_neg (by rw [wantedD hg ho hgd hc st, hcw]; simp)]
 refine ⟨fun f _ => trivial, hK _ _ ?_⟩
 rw [putD_defers, hd]
 exact h _ _ (st.put undef hdn)

def calm : Next → Bool
 | .value _ | .skip | .enter _ _ => true
 | _ => false
/-- an operation that never defers, at our states -/
def ND (P : Program) (n : Nat) (W : Nat → Prop) (w0 : World) (l : List (Nat × Value)) (m : List Res) (o : Oper) : Prop :=
 (∀ c, o.op ≠ .defer c) ∧ ∀ a w, St n W w0 l m a w → ∀ x w', (execOp a.eval o).run P w = .ok x w' → calm x = true

theorem wpIn_of_wp {a : Act} {w : World} {K : Act → World → Prop} (hnd : ∀ c, o.op ≠ .defer c) (hnd2 : ∀ x w', (execOp a.eval o).run P w = .ok x w' → calm x = true) (h : o.wp P a w (dK ds K) (fun e => dK ds (Q e))) : o.wpIn (FR ro) 0 P { a with defers := ds } w K Q := by
  refine ⟨fun f _ => trivial, ?_⟩
  have he : Oper.semAt (FR ro).round ({ a with defers := ds } : Act).eval o = execOp a.eval o := Oper.semAt_eq _ _ _ hnd
  rw [he]
  unfold Oper.wp at h
  generalize (execOp a.eval o).run P w = r at h hnd2
  cases r with
  | ok x w' =>
    cases x with
    | value v => show K _ _; rw [putD_defers]; exact h
    | skip => show K _ _; rw [putD_defers]; exact h
    | enter f args =>
      refine ⟨fun hh => by simp [Fence.wide] at hh, ?_⟩
      refine CallsIn.mono (callsI h) fun e w'' hq => ?_
      cases e with
      | returned v => show K _ _; rw [putD_defers]; exact hq
      | panicked chain => exact hq
      | outgrown => obtain ⟨a', w', hq⟩ := hq; exact ⟨_, w', hq⟩
    | _ => cases hnd2 _ _ rfl
  | halt x w' => cases x <;> first | exact h | exact h.elim

theorem Ok.effI {X : Type} {φ : X → Prop} {l' : X → List (Nat × Value)} {m' : X → List Res} (hg : o.guard = none) (hnd : ND P n W w0 l m o) (he : ∀ Q, Eff P n W w0 l m o Q X φ l' m') (h : ∀ x, φ x → Ok n W w0 (l' x) (m' x) (dK ds (wpListIn (FR ro) 0 P ops Q rest))) : Ok n W w0 l m (dK ds (wpListIn (FR ro) 0 P ops Q (o :: rest))) := by
 intro a w st
 refine wpListIn_plain hg fun K hK => ?_
 exact wpIn_of_wp hnd.1 (hnd.2 a w st) (he _ a w _ st fun x hx a' w' st' => hK _ _ (h x hx a' w' st'))
theorem Ok.effGI {X : Type} {φ : X → Prop} {l' : X → List (Nat × Value)} {m' : X → List Res} {g dg : Nat} {want c : Bool} {og : Oper} (hg : o.guard = some (g, want)) (ho : ops[g]? = some og) (hgd : og.dst = some dg) (hc : look l dg = some (.bool c)) (hcw : (c == want) = true) (hnd : ND P n W w0 l m o)
  (he : ∀ Q, Eff P n W w0 l m o Q X φ l' m') (h : ∀ x, φ x → Ok n W w0 (l' x) (m' x) (dK ds (wpListIn (FR ro) 0 P ops Q rest))) : Ok n W w0 l m (dK ds (wpListIn (FR ro) 0 P ops Q (o :: rest))) := by
 intro a w st
 refine wpListIn_step fun K hK => ?_
 rw [if_pos (by rw [wantedD hg ho hgd hc st, hcw])]
 exact wpIn_of_wp hnd.1 (hnd.2 a w st) (he _ a w _ st fun x hx a' w' st' => hK _ _ (h x hx a' w' st'))

theorem ND.store {t : TypeId} {x y : Operand} (ho : o.op = .store t x y) : ND P n W w0 l m o := by
 refine ⟨fun c h => by (rw [ho] at h; cases h), fun a w st x w' hr => ?_⟩
 simp only [execOp, ho, Sem.run_bind] at hr
 generalize (Instr.storeAt t (a.eval _) (a.eval _)).run P w = r at hr
 cases r with
 | ok v w'' => simp [Result.andThen] at hr; obtain ⟨rfl, _⟩ := hr; rfl
 | halt v w'' => simp [Result.andThen] at hr
theorem ND.alloc {t : TypeId} (ho : o.op = .alloc t) : ND P n W w0 l m o := by
 refine ⟨fun c h => by (rw [ho] at h; cases h), fun a w st x w' hr => ?_⟩
 simp only [execOp, ho, Sem.run_bind] at hr
 generalize (Instr.alloc t true (.tuple #[])).run P w = r at hr
 cases r with
 | ok v w'' => simp [Result.andThen] at hr; obtain ⟨rfl, _⟩ := hr; rfl
 | halt v w'' => simp [Result.andThen] at hr
theorem ND.buildSlice {t : TypeId} {k : Nat} {ps : Array (Nat × Operand)} (ho : o.op = .buildSlice t k ps) : ND P n W w0 l m o := by
 refine ⟨fun c h => by (rw [ho] at h; cases h), fun a w st x w' hr => ?_⟩
 simp only [execOp, ho, Sem.run_bind] at hr
 generalize (Instr.buildSlice t k _).run P w = r at hr
 cases r with
 | ok v w'' => simp [Result.andThen] at hr; obtain ⟨rfl, _⟩ := hr; rfl
 | halt v w'' => simp [Result.andThen] at hr
theorem ND.append {xs : Array Operand} {ts : Array TypeId} (ho : o.op = .call { callee := .builtin .append, args := xs, argTypes := ts }) : ND P n W w0 l m o := by
 refine ⟨fun c h => by (rw [ho] at h; cases h), fun a w st x w' hr => ?_⟩
 simp only [execOp, ho, resolve, invoke, builtin, Sem.run_bind, Sem.run_pure, Result.andThen_ok] at hr
 generalize (Builtin.append_ _ _ _).run P w = r at hr
 cases r with
 | ok v w'' => simp [Result.andThen] at hr; obtain ⟨rfl, _⟩ := hr; rfl
 | halt v w'' => simp [Result.andThen] at hr
theorem ND.call {f : FuncId} {xs : List Operand} {vs : List Value} {ts : Array TypeId} {x : Operand} (ho : o.op = .call { callee := .value x, args := xs.toArray, argTypes := ts }) (hx : ev l x = some (.func (.func f) #[] #[])) (hf : entersB P f = true) (hv : evs l xs = some vs) : ND P n W w0 l m o := by
 refine ⟨fun c h => by (rw [ho] at h; cases h), fun a w st x w' hr => ?_⟩
 rw [run_callOp ho hx hf hv st] at hr
 cases hr; rfl
end
end Go.SL
namespace Go.SL
open Go.RowKit
set_option linter.unusedVariables false
set_option linter.unusedSimpArgs false

section
variable {P : Program} {n : Nat} {W : Nat → Prop} {w0 : World} {l : List (Nat × Value)} {m : List Res} {ops : Array Oper} {Q : Exit → Act → World → Prop} {rest : List Oper} {o : Oper} {ro : Option Nat} {ds : List Deferred}

abbrev markD (D : Nat) : Deferred := { target := .collected D, args := #[] }

theorem calls_okM {f : FuncId} {fn : Func} {c : Code} {args : List Value} {R : Ending → World → Prop} (hf : P.funcs[f]? = some fn) (hb : fn.body = some c) (hn : fn.ntmps = n) (hl : Nat.ble args.length n = true)
  (hm : Mem W w0 m w0) (h : Ok n W w0 (enum 0 args) m (dK [] (c.wpIn (FR none) 0 P (bodyPostM (FR none) 0 P fn R)))) : Calls P f args.toArray w0 R := by
 refine (callsIn_wide (n := 0)).1 (callsIn_of_wp_marks (F := Fence.wide) hf hb trivial ?_ rfl)
 refine h { tmps := args.toArray ++ Array.replicate (fn.ntmps - args.toArray.size) undef, defers := [] } _ ⟨⟨?_, rfl, ?_⟩, hm, Keeps.refl W w0⟩
 ·
  have := Nat.le_of_ble_eq_true hl
  simp [hn]
  omega
 ·
  intro d v hd
  obtain ⟨_, h2⟩ := look_enum args 0 d v hd
  simp only [Nat.sub_zero] at h2
  have hlt : d < args.length := (List.getElem?_eq_some_iff.1 h2).1
  show (args.toArray ++ Array.replicate _ undef)[d]? = some v
  rw [Array.getElem?_append_left (by simpa using hlt)]
  simpa using h2

theorem Ok.retI0 {fn : Func} {R : Ending → World → Prop} {v : Value} (hQ : ∀ a w, bodyPostM (FR none) 0 P fn R .ret a w → Q .ret a w)
  (hr : ∀ a w, St n W w0 l m a w → (results fn a.tmps).run P w = .ok v w)
  (h : ∀ w, Mem W w0 m w → Keeps W w0 w → R (.returned v) w) : Ok n W w0 l m (dK [] (Code.ret.wpIn (FR none) 0 P Q)) :=
 fun a w st => wpIn_ret (hQ _ _ ⟨v, hr a w st, h w st.mem st.keeps⟩)

theorem Ok.finI0 {fn : Func} {R : Ending → World → Prop} {v : Value} (hQ : ∀ a w, bodyPostM (FR none) 0 P fn R .normal a w → Q .normal a w)
  (hr : ∀ a w, St n W w0 l m a w → (results fn a.tmps).run P w = .ok v w)
  (h : ∀ w, Mem W w0 m w → Keeps W w0 w → R (.returned v) w) : Ok n W w0 l m (dK [] (Q .normal)) :=
 fun a w st => hQ _ _ ⟨v, hr a w st, h w st.mem st.keeps⟩

theorem Ok.retDI {D : Nat} {fn : Func} {R : Ending → World → Prop} {v : Value} (i : Nat) (hm : nth m i = some (.blk D (.deferred (some [])))) (hQ : ∀ a w, bodyPostM (FR none) 0 P fn R .ret a w → Q .ret a w)
  (hr : ∀ a w, St n W w0 l (setN m i (.blk D (.deferred none))) a w → (results fn a.tmps).run P w = .ok v w)
  (h : ∀ w, Mem W w0 (setN m i (.blk D (.deferred none))) w → Keeps W w0 w → R (.returned v) w) : Ok n W w0 l m (dK [markD D] (Code.ret.wpIn (FR none) 0 P Q)) := by
 intro a w st
 have hb := st.mem.blk hm
 have hlt : D < w.heap.size := (Array.getElem?_eq_some_iff.1 hb).1
 have hmem : Mem W w0 (setN m i (.blk D (.deferred none))) (w.putObj D (.deferred none)) := st.mem.set hm (World.putObj_heap_same hlt) (by simp) (fun k hk _ => World.putObj_heap_other hk)
 have hkp : Keeps W w0 (w.putObj D (.deferred none)) := by
  have hm' := hm
  rw [nth_eq] at hm'
  exact st.keeps.write (st.mem.may _ (List.mem_of_getElem? hm') D rfl) rfl rfl rfl (by simp) (fun k hk _ => World.putObj_heap_other hk)
 refine wpIn_ret (hQ _ _ ?_)
 refine ⟨by simp, .inl ⟨D, _, rfl, run_takeDeferred hb, ?_⟩⟩
 exact ⟨v, hr a _ ⟨st.has, hmem, hkp⟩, h _ hmem hkp⟩

/-- the end of a round's body -/
theorem Ok.post {R : World → Prop} (h : ∀ w, Mem W w0 m w → Keeps W w0 w → R w) : Ok n W w0 l m (dK ds (fun _ w => R w)) := fun a w st => h w st.mem st.keeps

/-! ### Iterators -/
/-- gf, called with yield behind what it has captured, hands out xs; it writes and reads the blocks B alone -/
def Iter (P : Program) (gf : FuncId) (lb : List Value) (B : Nat → Prop) (xs : List (List Value)) (W0 : World) : Prop :=
 ∀ (lr : Nat) (J : Nat → World → Prop) (Jx : World → Prop) (W : World), Keeps (fun k => ¬ B k) W0 W →
  (∀ i w w', J i w → Keeps B w w' → J i w') → (∀ w w', Jx w → Keeps B w w' → Jx w') →
  (∀ i x W1, xs[i]? = some x → J i W1 → YieldAt (FR none) 0 P lr x.toArray W1 fun e W' => (e = .returned (.bool true) ∧ J (i + 1) W' ∧ Keeps (fun k => ¬ B k) W1 W') ∨ (e = .returned (.bool false) ∧ Jx W' ∧ Keeps (fun k => ¬ B k) W1 W')) →
  J 0 W → CallsIn (FR none) 0 P gf (.func (.yield lr) #[] #[] :: lb).toArray W fun e W' => (∃ v, e = .returned v) ∧ (J xs.length W' ∨ Jx W')

theorem run_yieldOp {lr : Nat} {xs : List Operand} {vs : List Value} {ts : Array TypeId} {x : Operand} (ho : o.op = .call { callee := .value x, args := xs.toArray, argTypes := ts }) (hx : ev l x = some (.func (.yield lr) #[] #[])) (hv : evs l xs = some vs) {a : Act} {w : World} (st : St n W w0 l m a w) :
  (execOp a.eval o).run P w = (Instr.yield lr vs.toArray).run P w := by
 have h1 : Array.map a.eval xs.toArray = vs.toArray := by rw [List.map_toArray, st.has.evs hv]
 simp [execOp, ho, resolve, st.has.ev hx, Deferred.ofValue, invoke, h1]

theorem yield_in {lr : Nat} {xs : List Operand} {vs : List Value} {ts : Array TypeId} {x : Operand} {d : Nat} {G : Value → World → Prop} {K : Act → World → Prop} (ho : o.op = .call { callee := .value x, args := xs.toArray, argTypes := ts }) (hx : ev l x = some (.func (.yield lr) #[] #[])) (hv : evs l xs = some vs) (hd : o.dst = some d)
  {a : Act} {w : World} (st : St n W w0 l m a w) (hY : YieldAt (FR none) 0 P lr vs.toArray w fun e w' => ∃ v, e = .returned v ∧ G v w') (hK : ∀ v w', G v w' → K { (a.put (some d) v) with defers := ds } w') : o.wpIn (FR none) 0 P { a with defers := ds } w K Q := by
 obtain ⟨fn, tmps, assign, body, hy, hR⟩ := hY
 refine ⟨fun f _ => trivial, ?_⟩
 have he : Oper.semAt (FR none).round ({ a with defers := ds } : Act).eval o = execOp a.eval o := rfl
 rw [he, run_yieldOp ho hx hv st, hy]
 refine ⟨fun hh => by simp [Fence.wide] at hh, ?_⟩
 refine hR.mono fun e w' ⟨v, he, hg⟩ => ?_
 subst he
 show K _ _
 rw [putD_defers, hd]
 exact hK v w' hg

theorem Ok.yieldGI {lr : Nat} {xs : List Operand} {vs : List Value} {ts : Array TypeId} {x : Operand} {d g dg : Nat} {want c : Bool} {og : Oper} {G : Value → World → Prop} {W2 : Nat → Prop} {m2 : List Res} (hg : o.guard = some (g, want)) (hog : ops[g]? = some og) (hgd : og.dst = some dg) (hc : look l dg = some (.bool c)) (hcw : (c == want) = true)
  (ho : o.op = .call { callee := .value x, args := xs.toArray, argTypes := ts }) (hx : ev l x = some (.func (.yield lr) #[] #[])) (hv : evs l xs = some vs) (hd : o.dst = some d) (hdn : Nat.ble (d + 1) n = true)
  (hY : ∀ w, Mem W w0 m w → Keeps W w0 w → YieldAt (FR none) 0 P lr vs.toArray w fun e w' => ∃ v, e = .returned v ∧ G v w')
  (hG : ∀ v w', G v w' → Mem W2 w' m2 w') (h : ∀ v w', G v w' → Ok n W2 w' ((d, v) :: l) m2 (dK ds (wpListIn (FR none) 0 P ops Q rest))) : Ok n W w0 l m (dK ds (wpListIn (FR none) 0 P ops Q (o :: rest))) := by
 intro a w st
 refine wpListIn_step fun K hK => ?_
 rw [if_pos (by rw [wantedD hg hog hgd hc st, hcw])]
 exact yield_in ho hx hv hd st (hY w st.mem st.keeps) fun v w' hgv => hK _ _ (h v w' hgv _ _ ⟨st.has.put v hdn, hG v w' hgv, Keeps.refl _ _⟩)
theorem Ok.yieldI {lr : Nat} {xs : List Operand} {vs : List Value} {ts : Array TypeId} {x : Operand} {d : Nat} {G : Value → World → Prop} {W2 : Nat → Prop} {m2 : List Res} (hg : o.guard = none)
  (ho : o.op = .call { callee := .value x, args := xs.toArray, argTypes := ts }) (hx : ev l x = some (.func (.yield lr) #[] #[])) (hv : evs l xs = some vs) (hd : o.dst = some d) (hdn : Nat.ble (d + 1) n = true)
  (hY : ∀ w, Mem W w0 m w → Keeps W w0 w → YieldAt (FR none) 0 P lr vs.toArray w fun e w' => ∃ v, e = .returned v ∧ G v w')
  (hG : ∀ v w', G v w' → Mem W2 w' m2 w') (h : ∀ v w', G v w' → Ok n W2 w' ((d, v) :: l) m2 (dK ds (wpListIn (FR none) 0 P ops Q rest))) : Ok n W w0 l m (dK ds (wpListIn (FR none) 0 P ops Q (o :: rest))) := by
 intro a w st
 refine wpListIn_plain hg fun K hK => ?_
 exact yield_in ho hx hv hd st (hY w st.mem st.keeps) fun v w' hgv => hK _ _ (h v w' hgv _ _ ⟨st.has.put v hdn, hG v w' hgv, Keeps.refl _ _⟩)

/-- a loop whose rounds begin anew: what is known is what the state tells -/
theorem Ok.loopR {c : Code} {X : Type} (φ : X → Prop) (L : X → List (Nat × Value)) (M : X → List Res) (Jw : X → World → Prop) (μ : X → Nat)
    (h0 : ∀ a w, St n W w0 l m a w → ∃ x, φ x ∧ Has n (L x) a ∧ Mem (blocksOf (M x)) w (M x) w ∧ Jw x w)
    (h : ∀ x, φ x → ∀ wS, Mem (blocksOf (M x)) wS (M x) wS → Jw x wS → Ok n (blocksOf (M x)) wS (L x) (M x) (dK ds (c.wpIn (FR ro) 0 P (Exit.then (fun a w => ∃ a0 y, a = { a0 with defers := ds } ∧ φ y ∧ μ y < μ x ∧ Has n (L y) a0 ∧ Mem (blocksOf (M y)) w (M y) w ∧ Jw y w) Q)))) : Ok n W w0 l m (dK ds ((Code.loop c).wpIn (FR ro) 0 P Q)) := by
  intro a w st
  let Z : X → Act → World → Prop := fun x a w => ∃ a0, a = { a0 with defers := ds } ∧ φ x ∧ Has n (L x) a0 ∧ Mem (blocksOf (M x)) w (M x) w ∧ Jw x w
  let I : Act → World → Prop := fun a w => ∃ x, Z x a w
  let G : Act → World → Nat → Prop := fun a w k => ∃ x, Z x a w ∧ μ x = k
  have hmin : ∀ a w, I a w → ∃ k, G a w k ∧ ∀ j, G a w j → k ≤ j := by
    intro a w ⟨x, hs⟩
    have hex : ∃ k, G a w k := ⟨μ x, x, hs, rfl⟩
    clear hs
    obtain ⟨k, hk⟩ := hex
    induction k using Nat.strongRecOn with
    | _ k ih =>
      by_cases hc : ∃ j, j < k ∧ G a w j
      · obtain ⟨j, hj, hg⟩ := hc; exact ih j hj hg
      · exact ⟨k, hk, fun j hj => Nat.le_of_not_lt fun hlt => hc ⟨j, hlt, hj⟩⟩
  open Classical in
  let ν : Act → World → Nat := fun a w => if hI : I a w then (hmin a w hI).choose else 0
  have hν : ∀ a w, (hI : I a w) → G a w (ν a w) ∧ ∀ j, G a w j → ν a w ≤ j := by
    intro a w hI
    have := (hmin a w hI).choose_spec
    simp only [ν, dif_pos hI]
    exact this
  obtain ⟨x, hx, hh, hm, hj⟩ := h0 a w st
  refine wpIn_loop I ν ⟨x, a, rfl, hx, hh, hm, hj⟩ ?_
  intro a w hI
  obtain ⟨⟨x, ⟨a0, rfl, hx, hh, hm, hj⟩, hk⟩, _⟩ := hν a w hI
  refine wpIn_mono (h x hx w hm hj a0 w ⟨hh, hm, Keeps.refl _ _⟩) fun e a' w' hq => ?_
  cases e with
  | normal =>
    obtain ⟨a1, y, ha1, hy, hlt, hhy, hmy, hjy⟩ := hq
    have hI' : I a' w' := ⟨y, a1, ha1, hy, hhy, hmy, hjy⟩
    refine ⟨hI', ?_⟩
    have := (hν a' w' hI').2 (μ y) ⟨y, ⟨a1, ha1, hy, hhy, hmy, hjy⟩, rfl⟩
    omega
  | _ => exact hq
theorem Ok.roundR {X : Type} {φ : X → Prop} {L : X → List (Nat × Value)} {M : X → List Res} {Jw : X → World → Prop} {μ : X → Nat} {k : Nat} (y : X) (is : List Nat) (hy : φ y) (hμ : μ y < k) (hs : subL l (L y)) (hm : selM m is = M y) (ha : nod is = true) (hJ : ∀ w, Mem W w0 m w → Keeps W w0 w → Jw y w) :
  Ok n W w0 l m (dK ds (fun a w => ∃ a0 y, a = { a0 with defers := ds } ∧ φ y ∧ μ y < k ∧ Has n (L y) a0 ∧ Mem (blocksOf (M y)) w (M y) w ∧ Jw y w)) :=
 fun a w st => ⟨a, y, rfl, hy, hμ, st.has.sub hs, (hm ▸ st.mem.sel is ha : Mem W w0 (M y) w).own, hJ w st.mem st.keeps⟩
end
end Go.SL
namespace Go.SL
open Go.RowKit
set_option linter.unusedVariables false
set_option linter.unusedSimpArgs false

def lpS (z : List (Nat × Value)) (l : List (Nat × Value)) : List (Nat × Value) := z.foldl (fun l p => p :: l) l
theorem Has.fold {n : Nat} : ∀ (z : List (Nat × Value)) (a : Act) (l : List (Nat × Value)), Has n l a → (∀ p ∈ z, p.1 < n) → Has n (lpS z l) { a with tmps := z.foldl (fun t p => t.setIfInBounds p.1 p.2) a.tmps }
 | [], a, l, h, _ => h
 | p :: z, a, l, h, hp => by
  have h1 : Has n (p :: l) (a.put (some p.1) p.2) := h.put p.2 (Nat.ble_eq_true_of_le (hp p (by simp)))
  exact Has.fold z (a.put (some p.1) p.2) (p :: l) h1 (fun q hq => hp q (by simp [hq]))

theorem selM_append {m : List Res} : ∀ (a b : List Nat), selM m (a ++ b) = selM m a ++ selM m b
 | [], b => rfl
 | i :: a, b => by
  simp only [List.cons_append, selM]
  cases nth m i with
  | none => exact selM_append a b
  | some x => simp [selM_append a b]

section
variable {P : Program} {n : Nat} {W : Nat → Prop} {w0 : World} {l : List (Nat × Value)} {m : List Res} {ops : Array Oper} {Q : Exit → Act → World → Prop} {rest : List Oper} {o : Oper} {ro : Option Nat} {ds : List Deferred}

/-- how a round's body may be left -/
def roundEnd {X Y : Type} (φ : X → Prop) (M : X → List Res) (ψ : Y → Prop) (My : Y → List Res) (S : Nat → Prop) (wS : World) : Exit → Act → World → Prop
 | .normal, _, w' => ∃ z, φ z ∧ Post wS S (M z) w'
 | .ret, _, w' => ∃ y, ψ y ∧ Post wS S (My y) w'
 | _, _, _ => False
theorem Ok.rndGo {X Y : Type} {φ : X → Prop} {M : X → List Res} {ψ : Y → Prop} {My : Y → List Res} (z : X) (is : List Nat) (hz : φ z) (hm : selM m is = M z) (ha : nod is = true) : Ok n W w0 l m (dK ds (roundEnd φ M ψ My W w0 .normal)) :=
 fun a w st => ⟨z, hz, st.keeps, hm ▸ st.mem.sel is ha⟩
theorem Ok.rndRet {X Y : Type} {φ : X → Prop} {M : X → List Res} {ψ : Y → Prop} {My : Y → List Res} (y : Y) (is : List Nat) (hy : ψ y) (hm : selM m is = My y) (ha : nod is = true) : Ok n W w0 l m (dK ds (roundEnd φ M ψ My W w0 .ret)) :=
 fun a w st => ⟨y, hy, st.keeps, hm ▸ st.mem.sel is ha⟩

theorem Mem.putO {S : Nat → Prop} {wb w : World} {ms : List Res} {L : Nat} (o : Obj) (h : Mem S wb ms w) (hL : ∀ r ∈ ms, ∀ k, r.block = some k → k ≠ L) : Mem S wb ms (w.putObj L o) :=
 ⟨fun r hr => Res.keeps (h.holds r hr) (S := fun k => k = L) ⟨rfl, rfl, rfl, by simp, fun k _ hk => World.putObj_heap_other hk⟩ (fun k hk => hL r hr k hk), h.may, h.apart⟩
theorem Keeps.putO {S : Nat → Prop} {a w : World} {L : Nat} (o : Obj) (h : Keeps S a w) (hL : S L ∨ a.heap.size ≤ L) : Keeps S a (w.putObj L o) :=
 ⟨h.os, h.tape, h.output, by simpa using h.size, fun k hk hn => by
  refine (World.putObj_heap_other ?_).trans (h.block k hk hn)
  rcases hL with hL | hL
  ·
   exact fun e => hn (e ▸ hL)
  ·
   omega⟩

theorem Ok.rangeFunc {g : Operand} {ps : List Tmp} {assign body : Code} {gf : FuncId} {lb : List Value} {xs : List (List Value)} {X Y : Type} (is bs js : List Nat)
    (hg : ev l g = some (.func (.func gf) #[] lb.toArray)) (hgf : entersB P gf = true) (hd1 : disj is bs = true) (hd2 : disj (is ++ bs) js = true) (hnis : nod is = true) (hnj : nod js = true)
    (hit : ∀ w, Mem W w0 m w → Keeps W w0 w → Iter P gf lb (blocksOf (selM m bs)) xs w) (hps : ∀ x ∈ xs, x.length = ps.length) (hpn : ps.all (fun p => Nat.ble (p + 1) n) = true)
    (φ : Nat → X → Prop) (M : X → List Res) (x0 : X) (h0 : φ 0 x0) (hM0 : selM m is = M x0) (ψ : Y → Prop) (My : Y → List Res) (l1 : List Value → List (Nat × Value))
    (hassign : ∀ lr x, x ∈ xs → ∀ w K, Ok n none1 w (l1 x) [] (dK [] K) → Ok n none1 w (lpS (ps.zip x) l) [] (dK [] (assign.wpIn (FR (some lr)) 0 P (Exit.then K (fun _ _ _ => False)))))
    (hbody : ∀ lr i x z, xs[i]? = some x → φ i z → ∀ wS, Keeps W w0 wS → Mem (blocksOf (M z)) wS (M z) wS → Ok n (blocksOf (M z)) wS (l1 x) (M z) (dK [] (body.wpIn (FR (some lr)) 0 P (roundEnd (φ (i + 1)) M ψ My (blocksOf (M z)) wS))))
    (hdone : ∀ D z, φ xs.length z → Ok n W w0 l ((.blk D (.deferred (some [])) :: M z) ++ selM m js) (dK [markD D] (Q .normal)))
    (hstop : ∀ D y, ψ y → Ok n W w0 l ((.blk D (.deferred (some [])) :: My y) ++ selM m js) (dK [markD D] (Code.ret.wpIn (FR none) 0 P Q))) :
    Ok n W w0 l m (dK [] ((Code.rangeFunc g ps.toArray assign body).wpIn (FR none) 0 P Q)) := by
  intro a w st
  have hit' := hit w st.mem st.keeps
  have hmI : Mem W w0 (M x0) w := hM0 ▸ st.mem.sel is hnis
  -- the sets of blocks
  obtain ⟨B, hB⟩ : ∃ B, blocksOf (selM m bs) = B := ⟨_, rfl⟩
  obtain ⟨SI, hSI⟩ : ∃ SI, blocksOf (selM m is) = SI := ⟨_, rfl⟩
  rw [hB] at hit'
  have hBlt : ∀ k, B k → k < w.heap.size := by
    rw [← hB]; rintro k ⟨r, hr, hk⟩
    exact Res.block_lt (st.mem.holds r (mem_selM bs r hr)) hk
  have hSIlt : ∀ k, SI k → k < w.heap.size := by
    rw [← hSI]; rintro k ⟨r, hr, hk⟩
    exact Res.block_lt (st.mem.holds r (mem_selM is r hr)) hk
  have hSB : ∀ k, SI k → ¬ B k := by
    rw [← hB, ← hSI]
    rintro k ⟨r, hr, hk⟩ ⟨s, hs, hk2⟩
    obtain ⟨i, him, hin⟩ := mem_selM_idx is r hr
    obtain ⟨j, hjm, hjn⟩ := mem_selM_idx bs s hs
    exact st.mem.apart_idx hin hjn (fun e => nth_sel_ne hd1 i him (e ▸ hjm)) hk hk2
  have hev : ({ a with defers := [] } : Act).eval g = .func (.func gf) #[] lb.toArray := by rw [evD]; exact st.has.ev hg
  refine wpIn_rangeFunc ?_
  intro fn hfn
  obtain ⟨rec, hrec⟩ : ∃ rec : LoopState → Option Code → Loop, rec = fun st pe => { state := st, pending := pe, fn, tmps := a.tmps, params := ps.toArray, assign, body, defers := w.heap.size } := ⟨_, rfl⟩
  obtain ⟨W1, hW1⟩ : ∃ W1, (w.alloc (.deferred (some []))).alloc (.loop (rec .ready none)) = W1 := ⟨_, rfl⟩
  have hs1 : W1.heap.size = w.heap.size + 2 := by rw [← hW1]; simp
  have hL1 : W1.heap[w.heap.size + 1]? = some (.loop (rec .ready none)) := by
    rw [← hW1]; have := World.alloc_heap_new (w.alloc (.deferred (some []))) (.loop (rec .ready none)); rwa [World.size_alloc] at this
  have hK1 : W1.heap[w.heap.size]? = some (.deferred (some [])) := by
    rw [← hW1]; exact (Below.heap_alloc _ _ _ (by simp)).trans (World.alloc_heap_new w _)
  have hkw1 : Keeps none1 w W1 := by rw [← hW1]; exact (Keeps.alloc none1 w _).trans (Keeps.alloc none1 _ _)
  obtain ⟨S1, hS1⟩ : ∃ S1 : Nat → Prop, S1 = fun k => SI k ∨ B k ∨ k = w.heap.size + 1 := ⟨_, rfl⟩
  refine ⟨w.heap.size + 1, [markD w.heap.size], W1, { target := .fn (.func gf) lb.toArray, args := #[.func (.yield (w.heap.size + 1)) #[] #[]] }, W1, gf,
    #[.func (.yield (w.heap.size + 1)) #[] #[]] ++ lb.toArray, W1, ?_, ?_, ?_, ?_, fun hh => by simp [Fence.wide] at hh, ?_⟩
  · rw [← hW1, hrec]; exact run_enterLoop_outer _ _ _ _ _
  · simp only [resolve, hev]
    simp [Deferred.ofValue]
    rfl
  · intro f' _; trivial
  · simp [invoke, run_call hgf]
  -- the invariant
  have hne : ∀ {ms : List Res} {V : World}, Mem SI W1 ms V → ∀ r ∈ ms, ∀ k, r.block = some k → k ≠ w.heap.size + 1 ∧ k ≠ w.heap.size ∧ ¬ B k := by
    intro ms V hm r hr k hk
    rcases hm.may r hr k hk with h | h
    · exact ⟨by omega, by omega, fun hb => by have := hBlt k hb; omega⟩
    · have := hSIlt k h; exact ⟨by omega, by omega, hSB k h⟩
  have hargs : (#[.func (.yield (w.heap.size + 1)) #[] #[]] ++ lb.toArray : Array Value) = (Value.func (.yield (w.heap.size + 1)) #[] #[] :: lb).toArray := by simp
  rw [hargs]
  refine (hit' (w.heap.size + 1)
    (fun i V => ∃ z, φ i z ∧ Keeps S1 W1 V ∧ Mem SI W1 (M z) V ∧ V.heap[w.heap.size + 1]? = some (.loop (rec .ready none)) ∧ V.heap[w.heap.size]? = some (.deferred (some [])))
    (fun V => ∃ y, ψ y ∧ Keeps S1 W1 V ∧ Mem SI W1 (My y) V ∧ V.heap[w.heap.size + 1]? = some (.loop (rec .done (some .ret))) ∧ V.heap[w.heap.size]? = some (.deferred (some [])))
    W1 (hkw1.mono fun k hk => hk.elim) ?_ ?_ ?_ ?_).mono ?_
  · rintro i V V' ⟨z, hz, hk, hm, hl, hd⟩ hkv
    have hsz := hk.size
    refine ⟨z, hz, hk.trans (hkv.mono fun k hb => by rw [hS1]; exact .inr (.inl hb)), ⟨fun r hr => Res.keeps (hm.holds r hr) hkv (fun k hk => (hne hm r hr k hk).2.2), hm.may, hm.apart⟩, ?_, ?_⟩
    · rw [hkv.block _ (by omega) (fun hb => by have := hBlt _ hb; omega)]; exact hl
    · rw [hkv.block _ (by omega) (fun hb => by have := hBlt _ hb; omega)]; exact hd
  · rintro V V' ⟨z, hz, hk, hm, hl, hd⟩ hkv
    have hsz := hk.size
    refine ⟨z, hz, hk.trans (hkv.mono fun k hb => by rw [hS1]; exact .inr (.inl hb)), ⟨fun r hr => Res.keeps (hm.holds r hr) hkv (fun k hk => (hne hm r hr k hk).2.2), hm.may, hm.apart⟩, ?_, ?_⟩
    · rw [hkv.block _ (by omega) (fun hb => by have := hBlt _ hb; omega)]; exact hl
    · rw [hkv.block _ (by omega) (fun hb => by have := hBlt _ hb; omega)]; exact hd
  · -- one round
    rintro i x V hx ⟨z, hz, hk, hm, hl, hd⟩
    have hsz := hk.size
    have hxm : x ∈ xs := List.mem_of_getElem? hx
    have hy := run_yield (P := P) (args := x.toArray) hl (by rw [hrec]; simpa using hps x hxm)
    rw [hrec] at hy
    refine ⟨fn, _, assign, body, hy, roundIn_of_wpIn hfn ?_⟩
    have hfold : (ps.toArray.zip x.toArray).foldl (fun (tmps : Array Value) (p : Tmp × Value) => tmps.setIfInBounds p.1 p.2) a.tmps = (ps.zip x).foldl (fun t p => t.setIfInBounds p.1 p.2) a.tmps := by
      rw [← Array.foldl_toList]; simp
    have hhas : Has n (lpS (ps.zip x) l) { a with tmps := (ps.zip x).foldl (fun t p => t.setIfInBounds p.1 p.2) a.tmps } := by
      refine Has.fold _ a l st.has fun p hp => ?_
      have := List.all_eq_true.1 hpn p.1 (List.of_mem_zip hp).1
      exact Nat.le_of_ble_eq_true this
    have hA := hassign (w.heap.size + 1) x hxm V (fun a₁ w₁ => ∃ w₂, (Instr.beginRound (w.heap.size + 1)).run P w₁ = .ok () w₂ ∧ body.wpIn (FR (some (w.heap.size + 1))) 0 P (roundPost P (w.heap.size + 1) fun e W' =>
      (e = .returned (.bool true) ∧ (∃ z, φ (i + 1) z ∧ Keeps S1 W1 W' ∧ Mem SI W1 (M z) W' ∧ W'.heap[w.heap.size + 1]? = some (.loop (rec .ready none)) ∧ W'.heap[w.heap.size]? = some (.deferred (some []))) ∧ Keeps (fun k => ¬ B k) V W') ∨
      (e = .returned (.bool false) ∧ (∃ y, ψ y ∧ Keeps S1 W1 W' ∧ Mem SI W1 (My y) W' ∧ W'.heap[w.heap.size + 1]? = some (.loop (rec .done (some .ret))) ∧ W'.heap[w.heap.size]? = some (.deferred (some []))) ∧ Keeps (fun k => ¬ B k) V W')) a₁ w₂) ?_ _ V ⟨hhas, SL.Mem.nil _ _ _, Keeps.refl _ _⟩
    · have e1 : ({ tmps := (ps.toArray.zip x.toArray).foldl (fun (tmps : Array Value) (p : Tmp × Value) => tmps.setIfInBounds p.1 p.2) a.tmps, defers := [] } : Act) = { tmps := (ps.zip x).foldl (fun t p => t.setIfInBounds p.1 p.2) a.tmps, defers := [] } := by rw [hfold]
      exact e1 ▸ hA
    intro a1 Va st1
    have hka := st1.keeps
    have hla : Va.heap[w.heap.size + 1]? = some (.loop (rec .ready none)) := by rw [hka.block _ (by omega) (fun h => h)]; exact hl
    have hda : Va.heap[w.heap.size]? = some (.deferred (some [])) := by rw [hka.block _ (by omega) (fun h => h)]; exact hd
    have hma : Mem SI W1 (M z) Va := ⟨fun r hr => Res.keeps (hm.holds r hr) hka (fun _ _ h => h), hm.may, hm.apart⟩
    have hkA : Keeps S1 W1 Va := hk.trans hka.weak
    have hsa := hkA.size
    have hlta : w.heap.size + 1 < Va.heap.size := by omega
    refine ⟨_, run_beginRound hla (by rw [hrec]), ?_⟩
    -- the body
    obtain ⟨W2, hW2⟩ : ∃ W2, Va.putObj (w.heap.size + 1) (.loop { rec .ready none with state := .busy }) = W2 := ⟨_, rfl⟩
    rw [hW2]
    have hs2 : W2.heap.size = Va.heap.size := by rw [← hW2]; simp
    have hl2 : W2.heap[w.heap.size + 1]? = some (.loop { rec .ready none with state := .busy }) := by rw [← hW2]; exact World.putObj_heap_same hlta
    have hd2' : W2.heap[w.heap.size]? = some (.deferred (some [])) := by rw [← hW2]; exact (World.putObj_heap_other (by omega)).trans hda
    have hm2 : Mem SI W1 (M z) W2 := by rw [← hW2]; exact hma.putO _ (fun r hr k hk => (hne hma r hr k hk).1)
    have hk2 : Keeps S1 W1 W2 := by rw [← hW2]; exact hkA.putO _ (.inl (by rw [hS1]; exact .inr (.inr rfl)))
    have hK0 : Keeps W w0 W2 := by
      refine ⟨hk2.os.trans (hkw1.os.trans st.keeps.os), hk2.tape.trans (hkw1.tape.trans st.keeps.tape), hk2.output.trans (hkw1.output.trans st.keeps.output), by have := st.keeps.size; omega, fun k hklt hn => ?_⟩
      have h1 := st.keeps.size
      rw [hk2.block k (by omega) ?_, hkw1.block k (by omega) (fun h => h), st.keeps.block k hklt hn]
      rw [hS1]
      rintro (h | h | h)
      · rw [← hSI] at h
        obtain ⟨r, hr, hrk⟩ := h
        rcases st.mem.may r (mem_selM is r hr) k hrk with hh | hh
        · omega
        · exact hn hh
      · rw [← hB] at h
        obtain ⟨r, hr, hrk⟩ := h
        rcases st.mem.may r (mem_selM bs r hr) k hrk with hh | hh
        · omega
        · exact hn hh
      · omega
    have hbd := hbody (w.heap.size + 1) i x z hx hz W2 hK0 hm2.own a1 W2 ⟨st1.has, hm2.own, Keeps.refl _ _⟩
    -- what a body's post says of the blocks of the loop
    have after : ∀ {ms : List Res} {W3 : World}, Post W2 (blocksOf (M z)) ms W3 → ∀ o' : Obj,
        W3.heap[w.heap.size + 1]? = some (.loop { rec .ready none with state := .busy }) ∧ Keeps S1 W1 (W3.putObj (w.heap.size + 1) o') ∧ Mem SI W1 ms (W3.putObj (w.heap.size + 1) o') ∧ (W3.putObj (w.heap.size + 1) o').heap[w.heap.size + 1]? = some o' ∧ (W3.putObj (w.heap.size + 1) o').heap[w.heap.size]? = some (.deferred (some [])) ∧ Keeps (fun k => ¬ B k) V (W3.putObj (w.heap.size + 1) o') := by
      intro ms W3 hp o'
      have hs3 := hp.keeps.size
      have hnb : ∀ k, blocksOf (M z) k → k ≠ w.heap.size + 1 ∧ k ≠ w.heap.size ∧ ¬ B k := fun k ⟨r, hr, hrk⟩ => hne hm2 r hr k hrk
      have hl3 : W3.heap[w.heap.size + 1]? = some (.loop { rec .ready none with state := .busy }) := by rw [hp.keeps.block _ (by omega) (fun h => (hnb _ h).1 rfl)]; exact hl2
      have hd3 : W3.heap[w.heap.size]? = some (.deferred (some [])) := by rw [hp.keeps.block _ (by omega) (fun h => (hnb _ h).2.1 rfl)]; exact hd2'
      have hmay : ∀ k, blocksOf (M z) k → W1.heap.size ≤ k ∨ SI k := fun k ⟨r, hr, hrk⟩ => hm2.may r hr k hrk
      have hk3 : Keeps S1 W1 W3 := by
        refine ⟨hp.keeps.os.trans hk2.os, hp.keeps.tape.trans hk2.tape, hp.keeps.output.trans hk2.output, by omega, fun k hklt hn => ?_⟩
        rw [hp.keeps.block k (by omega) ?_, hk2.block k hklt hn]
        intro h
        rcases hmay k h with hh | hh
        · omega
        · exact hn (by rw [hS1]; exact .inl hh)
      have hm3 : Mem SI W1 ms W3 := ⟨hp.mem.holds, fun r hr k hrk => by
        rcases hp.mem.may r hr k hrk with hh | hh
        · exact .inl (by omega)
        · exact hmay k hh, hp.mem.apart⟩
      refine ⟨hl3, hk3.putO _ (.inl (by rw [hS1]; exact .inr (.inr rfl))), hm3.putO _ (fun r hr k hrk => (hne hm3 r hr k hrk).1), World.putObj_heap_same (by omega), (World.putObj_heap_other (by omega)).trans hd3, ?_⟩
      have e0 : Keeps (fun k => ¬ B k) V Va := hka.mono fun k hk => hk.elim
      have e1 : Keeps (fun k => ¬ B k) V W2 := by
        rw [← hW2]; exact e0.putO _ (.inl fun hb => by have := hBlt _ hb; omega)
      exact (e1.trans (hp.keeps.mono fun k hk => (hnb k hk).2.2)).putO _ (.inl fun hb => by have := hBlt _ hb; omega)
    refine wpIn_mono hbd fun e a3 W3 hq => ?_
    cases e with
    | normal =>
      obtain ⟨z', hz', hp⟩ := hq
      obtain ⟨hl3, hk4, hm4, hl4, hd4, hv4⟩ := after hp (.loop { rec .ready none with state := .ready, pending := none })
      have hend := run_endRound (P := P) none hl3
      refine ⟨_, _, hend, .inl ⟨rfl, ⟨z', hz', ?_, ?_, ?_, ?_⟩, ?_⟩⟩
      · exact hk4
      · exact hm4
      · have : rec .ready none = { rec .ready none with state := .ready, pending := none } := by rw [hrec]
        rw [this]; exact hl4
      · exact hd4
      · exact hv4
    | ret =>
      obtain ⟨y, hy', hp⟩ := hq
      obtain ⟨hl3, hk4, hm4, hl4, hd4, hv4⟩ := after hp (.loop { rec .ready none with state := .done, pending := some .ret })
      have hend := run_endRound (P := P) (some .ret) hl3
      refine ⟨_, _, hend, .inr ⟨rfl, ⟨y, hy', ?_, ?_, ?_, ?_⟩, ?_⟩⟩
      · exact hk4
      · exact hm4
      · have : rec .done (some .ret) = { rec .ready none with state := .done, pending := some .ret } := by rw [hrec]
        rw [this]; exact hl4
      · exact hd4
      · exact hv4
    | _ => exact hq.elim
  · exact ⟨x0, h0, Keeps.refl _ _, ⟨fun r hr => Res.keeps (hmI.holds r hr) hkw1 (fun _ _ h => h), fun r hr k hk => .inr (by rw [← hSI, hM0]; exact ⟨r, hr, hk⟩), hmI.apart⟩, hL1, hK1⟩
  · -- behind the iterator
    have fin : ∀ {ms : List Res} {V : World} (o' : Obj), Keeps S1 W1 V → Mem SI W1 ms V → V.heap[w.heap.size]? = some (.deferred (some [])) →
        St n W w0 l ((.blk w.heap.size (.deferred (some [])) :: ms) ++ selM m js) a (V.putObj (w.heap.size + 1) o') := by
      intro ms V o' hk hm hd
      have hsz := hk.size
      have hp : Post w (blocksOf (selM m (is ++ bs))) (.blk w.heap.size (.deferred (some [])) :: ms) (V.putObj (w.heap.size + 1) o') := by
        have hk' : Keeps S1 W1 (V.putObj (w.heap.size + 1) o') := hk.putO _ (.inl (by rw [hS1]; exact .inr (.inr rfl)))
        have hm' := hm.putO o' (fun r hr k hrk => (hne hm r hr k hrk).1)
        refine ⟨⟨hk'.os.trans hkw1.os, hk'.tape.trans hkw1.tape, hk'.output.trans hkw1.output, by have := hk'.size; omega, fun k hklt hn => ?_⟩, ?_, ?_, ?_⟩
        · rw [hk'.block k (by omega) ?_, hkw1.block k hklt (fun h => h)]
          rw [hS1]
          rintro (h | h | h)
          · exact hn (by rw [selM_append]; rw [← hSI] at h; obtain ⟨r, hr, hrk⟩ := h; exact ⟨r, List.mem_append.2 (.inl hr), hrk⟩)
          · exact hn (by rw [selM_append]; rw [← hB] at h; obtain ⟨r, hr, hrk⟩ := h; exact ⟨r, List.mem_append.2 (.inr hr), hrk⟩)
          · omega
        · intro r hr
          rcases List.mem_cons.1 hr with rfl | hr
          · exact (World.putObj_heap_other (by omega)).trans hd
          · exact hm'.holds r hr
        · intro r hr k hrk
          rcases List.mem_cons.1 hr with rfl | hr
          · simp only [Res.block, Option.some.injEq] at hrk; exact .inl (by omega)
          · rcases hm.may r hr k hrk with h | h
            · exact .inl (by omega)
            · exact .inr (by rw [selM_append]; rw [← hSI] at h; obtain ⟨s, hs, hsk⟩ := h; exact ⟨s, List.mem_append.2 (.inl hs), hsk⟩)
        · refine List.pairwise_cons.2 ⟨fun s hs k hk1 hk2 => ?_, hm.apart⟩
          simp only [Res.block, Option.some.injEq] at hk1
          exact (hne hm s hs k hk2).2.1 hk1.symm
      exact ⟨st.has, st.mem.after st.keeps.size hd2 hnj hp, st.keeps.after st.mem hp⟩
    rintro e V ⟨⟨v, rfl⟩, (⟨z, hz, hk, hm, hl, hd⟩ | ⟨y, hy', hk, hm, hl, hd⟩)⟩
    · refine ⟨none, _, by have := run_endLoop (P := P) hl (by rw [hrec]; simp); rw [hrec] at this; exact this, ?_⟩
      exact hdone w.heap.size z hz a _ (fin _ hk hm hd)
    · refine ⟨some .ret, _, by have := run_endLoop (P := P) hl (by rw [hrec]; simp); rw [hrec] at this; exact this, ?_⟩
      exact hstop w.heap.size y hy' a _ (fin _ hk hm hd)
end
end Go.SL
namespace Go.SL
open Go.RowKit
set_option linter.unusedVariables false
set_option linter.unusedSimpArgs false
section
variable {P : Program} {n : Nat} {W : Nat → Prop} {w0 : World} {l : List (Nat × Value)} {m : List Res} {ops : Array Oper} {Q : Exit → Act → World → Prop} {rest : List Oper} {o : Oper} {ro : Option Nat} {ds : List Deferred}

theorem ND.box {t : TypeId} {x : Operand} (ho : o.op = .box t x) : ND P n W w0 l m o := by
 refine ⟨fun c h => by (rw [ho] at h; cases h), fun a w st x w' hr => ?_⟩
 simp only [execOp, ho, Sem.run_bind] at hr
 generalize (Instr.box t (a.eval _)).run P w = r at hr
 cases r with
 | ok v w'' => simp [Result.andThen] at hr; obtain ⟨rfl, _⟩ := hr; rfl
 | halt v w'' => simp [Result.andThen] at hr
/-- as Iter, where the body leaves B' as it is, and the iterator writes B alone -/
def IterF (P : Program) (gf : FuncId) (lb : List Value) (B B' : Nat → Prop) (xs : List (List Value)) (W0 : World) : Prop :=
 ∀ (lr : Nat) (J : Nat → World → Prop) (Jx : World → Prop) (W : World), Keeps (fun k => ¬ B' k) W0 W →
  (∀ i w w', J i w → Keeps B w w' → J i w') → (∀ w w', Jx w → Keeps B w w' → Jx w') →
  (∀ i x W1, xs[i]? = some x → J i W1 → YieldAt (FR none) 0 P lr x.toArray W1 fun e W' => (e = .returned (.bool true) ∧ J (i + 1) W' ∧ Keeps (fun k => ¬ B' k) W1 W') ∨ (e = .returned (.bool false) ∧ Jx W' ∧ Keeps (fun k => ¬ B' k) W1 W')) →
  J 0 W → CallsIn (FR none) 0 P gf (.func (.yield lr) #[] #[] :: lb).toArray W fun e W' => (∃ v, e = .returned v) ∧ (J xs.length W' ∨ Jx W')

theorem Ok.rangeFuncF {g : Operand} {ps : List Tmp} {assign body : Code} {gf : FuncId} {lb : List Value} {xs : List (List Value)} {X Y : Type} (is bs js : List Nat)
    (hg : ev l g = some (.func (.func gf) #[] lb.toArray)) (hgf : entersB P gf = true) (hd1 : disj is bs = true) (hd2 : disj (is ++ bs) js = true) (hnis : nod is = true) (hnj : nod js = true)
    (F : Nat → Prop) (hF : ∀ k, F k → k < w0.heap.size ∧ ¬ W k) (hit : ∀ w, Mem W w0 m w → Keeps W w0 w → IterF P gf lb (blocksOf (selM m bs)) (fun k => blocksOf (selM m bs) k ∨ F k) xs w) (hps : ∀ x ∈ xs, x.length = ps.length) (hpn : ps.all (fun p => Nat.ble (p + 1) n) = true)
    (φ : Nat → X → Prop) (M : X → List Res) (x0 : X) (h0 : φ 0 x0) (hM0 : selM m is = M x0) (ψ : Y → Prop) (My : Y → List Res) (l1 : List Value → List (Nat × Value))
    (hassign : ∀ lr x, x ∈ xs → ∀ w K, Ok n none1 w (l1 x) [] (dK [] K) → Ok n none1 w (lpS (ps.zip x) l) [] (dK [] (assign.wpIn (FR (some lr)) 0 P (Exit.then K (fun _ _ _ => False)))))
    (hbody : ∀ lr i x z, xs[i]? = some x → φ i z → ∀ wS, Keeps W w0 wS → Mem (blocksOf (M z)) wS (M z) wS → Ok n (blocksOf (M z)) wS (l1 x) (M z) (dK [] (body.wpIn (FR (some lr)) 0 P (roundEnd (φ (i + 1)) M ψ My (blocksOf (M z)) wS))))
    (hdone : ∀ D z, φ xs.length z → Ok n W w0 l ((.blk D (.deferred (some [])) :: M z) ++ selM m js) (dK [markD D] (Q .normal)))
    (hstop : ∀ D y, ψ y → Ok n W w0 l ((.blk D (.deferred (some [])) :: My y) ++ selM m js) (dK [markD D] (Code.ret.wpIn (FR none) 0 P Q))) :
    Ok n W w0 l m (dK [] ((Code.rangeFunc g ps.toArray assign body).wpIn (FR none) 0 P Q)) := by
  intro a w st
  have hit' := hit w st.mem st.keeps
  have hmI : Mem W w0 (M x0) w := hM0 ▸ st.mem.sel is hnis
  -- the sets of blocks
  obtain ⟨B, hB⟩ : ∃ B, blocksOf (selM m bs) = B := ⟨_, rfl⟩
  obtain ⟨SI, hSI⟩ : ∃ SI, blocksOf (selM m is) = SI := ⟨_, rfl⟩
  obtain ⟨B', hB'⟩ : ∃ B' : Nat → Prop, (fun k => blocksOf (selM m bs) k ∨ F k) = B' := ⟨_, rfl⟩
  rw [hB', hB] at hit'
  have hBB : ∀ k, B k → B' k := fun k h => by rw [← hB']; exact .inl (by rw [hB]; exact h)
  have hBlt : ∀ k, B k → k < w.heap.size := by
    rw [← hB]; rintro k ⟨r, hr, hk⟩
    exact Res.block_lt (st.mem.holds r (mem_selM bs r hr)) hk
  have hBlt' : ∀ k, B' k → k < w.heap.size := by
    rw [← hB']; rintro k (h | h)
    · exact hBlt k (by rw [← hB]; exact h)
    · exact Nat.lt_of_lt_of_le (hF k h).1 st.keeps.size
  have hSIlt : ∀ k, SI k → k < w.heap.size := by
    rw [← hSI]; rintro k ⟨r, hr, hk⟩
    exact Res.block_lt (st.mem.holds r (mem_selM is r hr)) hk
  have hSB : ∀ k, SI k → ¬ B k := by
    rw [← hB, ← hSI]
    rintro k ⟨r, hr, hk⟩ ⟨s, hs, hk2⟩
    obtain ⟨i, him, hin⟩ := mem_selM_idx is r hr
    obtain ⟨j, hjm, hjn⟩ := mem_selM_idx bs s hs
    exact st.mem.apart_idx hin hjn (fun e => nth_sel_ne hd1 i him (e ▸ hjm)) hk hk2
  have hSB' : ∀ k, SI k → ¬ B' k := by
    intro k hs
    rw [← hB']
    rintro (h | h)
    · exact hSB k hs (by rw [← hB]; exact h)
    · rw [← hSI] at hs
      obtain ⟨r, hr, hk⟩ := hs
      rcases st.mem.may r (mem_selM is r hr) k hk with hh | hh
      · have := (hF k h).1; omega
      · exact (hF k h).2 hh
  have hev : ({ a with defers := [] } : Act).eval g = .func (.func gf) #[] lb.toArray := by rw [evD]; exact st.has.ev hg
  refine wpIn_rangeFunc ?_
  intro fn hfn
  obtain ⟨rec, hrec⟩ : ∃ rec : LoopState → Option Code → Loop, rec = fun st pe => { state := st, pending := pe, fn, tmps := a.tmps, params := ps.toArray, assign, body, defers := w.heap.size } := ⟨_, rfl⟩
  obtain ⟨W1, hW1⟩ : ∃ W1, (w.alloc (.deferred (some []))).alloc (.loop (rec .ready none)) = W1 := ⟨_, rfl⟩
  have hs1 : W1.heap.size = w.heap.size + 2 := by rw [← hW1]; simp
  have hL1 : W1.heap[w.heap.size + 1]? = some (.loop (rec .ready none)) := by
    rw [← hW1]; have := World.alloc_heap_new (w.alloc (.deferred (some []))) (.loop (rec .ready none)); rwa [World.size_alloc] at this
  have hK1 : W1.heap[w.heap.size]? = some (.deferred (some [])) := by
    rw [← hW1]; exact (Below.heap_alloc _ _ _ (by simp)).trans (World.alloc_heap_new w _)
  have hkw1 : Keeps none1 w W1 := by rw [← hW1]; exact (Keeps.alloc none1 w _).trans (Keeps.alloc none1 _ _)
  obtain ⟨S1, hS1⟩ : ∃ S1 : Nat → Prop, S1 = fun k => SI k ∨ B k ∨ k = w.heap.size + 1 := ⟨_, rfl⟩
  refine ⟨w.heap.size + 1, [markD w.heap.size], W1, { target := .fn (.func gf) lb.toArray, args := #[.func (.yield (w.heap.size + 1)) #[] #[]] }, W1, gf,
    #[.func (.yield (w.heap.size + 1)) #[] #[]] ++ lb.toArray, W1, ?_, ?_, ?_, ?_, fun hh => by simp [Fence.wide] at hh, ?_⟩
  · rw [← hW1, hrec]; exact run_enterLoop_outer _ _ _ _ _
  · simp only [resolve, hev]
    simp [Deferred.ofValue]
    rfl
  · intro f' _; trivial
  · simp [invoke, run_call hgf]
  -- the invariant
  have hne : ∀ {ms : List Res} {V : World}, Mem SI W1 ms V → ∀ r ∈ ms, ∀ k, r.block = some k → k ≠ w.heap.size + 1 ∧ k ≠ w.heap.size ∧ ¬ B' k := by
    intro ms V hm r hr k hk
    rcases hm.may r hr k hk with h | h
    · exact ⟨by omega, by omega, fun hb => by have := hBlt' k hb; omega⟩
    · have := hSIlt k h; exact ⟨by omega, by omega, hSB' k h⟩
  have hargs : (#[.func (.yield (w.heap.size + 1)) #[] #[]] ++ lb.toArray : Array Value) = (Value.func (.yield (w.heap.size + 1)) #[] #[] :: lb).toArray := by simp
  rw [hargs]
  refine (hit' (w.heap.size + 1)
    (fun i V => ∃ z, φ i z ∧ Keeps S1 W1 V ∧ Mem SI W1 (M z) V ∧ V.heap[w.heap.size + 1]? = some (.loop (rec .ready none)) ∧ V.heap[w.heap.size]? = some (.deferred (some [])))
    (fun V => ∃ y, ψ y ∧ Keeps S1 W1 V ∧ Mem SI W1 (My y) V ∧ V.heap[w.heap.size + 1]? = some (.loop (rec .done (some .ret))) ∧ V.heap[w.heap.size]? = some (.deferred (some [])))
    W1 (hkw1.mono fun k hk => hk.elim) ?_ ?_ ?_ ?_).mono ?_
  · rintro i V V' ⟨z, hz, hk, hm, hl, hd⟩ hkv
    have hsz := hk.size
    refine ⟨z, hz, hk.trans (hkv.mono fun k hb => by rw [hS1]; exact .inr (.inl hb)), ⟨fun r hr => Res.keeps (hm.holds r hr) hkv (fun k hk hb => (hne hm r hr k hk).2.2 (hBB k hb)), hm.may, hm.apart⟩, ?_, ?_⟩
    · rw [hkv.block _ (by omega) (fun hb => by have := hBlt _ hb; omega)]; exact hl
    · rw [hkv.block _ (by omega) (fun hb => by have := hBlt _ hb; omega)]; exact hd
  · rintro V V' ⟨z, hz, hk, hm, hl, hd⟩ hkv
    have hsz := hk.size
    refine ⟨z, hz, hk.trans (hkv.mono fun k hb => by rw [hS1]; exact .inr (.inl hb)), ⟨fun r hr => Res.keeps (hm.holds r hr) hkv (fun k hk hb => (hne hm r hr k hk).2.2 (hBB k hb)), hm.may, hm.apart⟩, ?_, ?_⟩
    · rw [hkv.block _ (by omega) (fun hb => by have := hBlt _ hb; omega)]; exact hl
    · rw [hkv.block _ (by omega) (fun hb => by have := hBlt _ hb; omega)]; exact hd
  · -- one round
    rintro i x V hx ⟨z, hz, hk, hm, hl, hd⟩
    have hsz := hk.size
    have hxm : x ∈ xs := List.mem_of_getElem? hx
    have hy := run_yield (P := P) (args := x.toArray) hl (by rw [hrec]; simpa using hps x hxm)
    rw [hrec] at hy
    refine ⟨fn, _, assign, body, hy, roundIn_of_wpIn hfn ?_⟩
    have hfold : (ps.toArray.zip x.toArray).foldl (fun (tmps : Array Value) (p : Tmp × Value) => tmps.setIfInBounds p.1 p.2) a.tmps = (ps.zip x).foldl (fun t p => t.setIfInBounds p.1 p.2) a.tmps := by
      rw [← Array.foldl_toList]; simp
    have hhas : Has n (lpS (ps.zip x) l) { a with tmps := (ps.zip x).foldl (fun t p => t.setIfInBounds p.1 p.2) a.tmps } := by
      refine Has.fold _ a l st.has fun p hp => ?_
      have := List.all_eq_true.1 hpn p.1 (List.of_mem_zip hp).1
      exact Nat.le_of_ble_eq_true this
    have hA := hassign (w.heap.size + 1) x hxm V (fun a₁ w₁ => ∃ w₂, (Instr.beginRound (w.heap.size + 1)).run P w₁ = .ok () w₂ ∧ body.wpIn (FR (some (w.heap.size + 1))) 0 P (roundPost P (w.heap.size + 1) fun e W' =>
      (e = .returned (.bool true) ∧ (∃ z, φ (i + 1) z ∧ Keeps S1 W1 W' ∧ Mem SI W1 (M z) W' ∧ W'.heap[w.heap.size + 1]? = some (.loop (rec .ready none)) ∧ W'.heap[w.heap.size]? = some (.deferred (some []))) ∧ Keeps (fun k => ¬ B' k) V W') ∨
      (e = .returned (.bool false) ∧ (∃ y, ψ y ∧ Keeps S1 W1 W' ∧ Mem SI W1 (My y) W' ∧ W'.heap[w.heap.size + 1]? = some (.loop (rec .done (some .ret))) ∧ W'.heap[w.heap.size]? = some (.deferred (some []))) ∧ Keeps (fun k => ¬ B' k) V W')) a₁ w₂) ?_ _ V ⟨hhas, SL.Mem.nil _ _ _, Keeps.refl _ _⟩
    · have e1 : ({ tmps := (ps.toArray.zip x.toArray).foldl (fun (tmps : Array Value) (p : Tmp × Value) => tmps.setIfInBounds p.1 p.2) a.tmps, defers := [] } : Act) = { tmps := (ps.zip x).foldl (fun t p => t.setIfInBounds p.1 p.2) a.tmps, defers := [] } := by rw [hfold]
      exact e1 ▸ hA
    intro a1 Va st1
    have hka := st1.keeps
    have hla : Va.heap[w.heap.size + 1]? = some (.loop (rec .ready none)) := by rw [hka.block _ (by omega) (fun h => h)]; exact hl
    have hda : Va.heap[w.heap.size]? = some (.deferred (some [])) := by rw [hka.block _ (by omega) (fun h => h)]; exact hd
    have hma : Mem SI W1 (M z) Va := ⟨fun r hr => Res.keeps (hm.holds r hr) hka (fun _ _ h => h), hm.may, hm.apart⟩
    have hkA : Keeps S1 W1 Va := hk.trans hka.weak
    have hsa := hkA.size
    have hlta : w.heap.size + 1 < Va.heap.size := by omega
    refine ⟨_, run_beginRound hla (by rw [hrec]), ?_⟩
    -- the body
    obtain ⟨W2, hW2⟩ : ∃ W2, Va.putObj (w.heap.size + 1) (.loop { rec .ready none with state := .busy }) = W2 := ⟨_, rfl⟩
    rw [hW2]
    have hs2 : W2.heap.size = Va.heap.size := by rw [← hW2]; simp
    have hl2 : W2.heap[w.heap.size + 1]? = some (.loop { rec .ready none with state := .busy }) := by rw [← hW2]; exact World.putObj_heap_same hlta
    have hd2' : W2.heap[w.heap.size]? = some (.deferred (some [])) := by rw [← hW2]; exact (World.putObj_heap_other (by omega)).trans hda
    have hm2 : Mem SI W1 (M z) W2 := by rw [← hW2]; exact hma.putO _ (fun r hr k hk => (hne hma r hr k hk).1)
    have hk2 : Keeps S1 W1 W2 := by rw [← hW2]; exact hkA.putO _ (.inl (by rw [hS1]; exact .inr (.inr rfl)))
    have hK0 : Keeps W w0 W2 := by
      refine ⟨hk2.os.trans (hkw1.os.trans st.keeps.os), hk2.tape.trans (hkw1.tape.trans st.keeps.tape), hk2.output.trans (hkw1.output.trans st.keeps.output), by have := st.keeps.size; omega, fun k hklt hn => ?_⟩
      have h1 := st.keeps.size
      rw [hk2.block k (by omega) ?_, hkw1.block k (by omega) (fun h => h), st.keeps.block k hklt hn]
      rw [hS1]
      rintro (h | h | h)
      · rw [← hSI] at h
        obtain ⟨r, hr, hrk⟩ := h
        rcases st.mem.may r (mem_selM is r hr) k hrk with hh | hh
        · omega
        · exact hn hh
      · rw [← hB] at h
        obtain ⟨r, hr, hrk⟩ := h
        rcases st.mem.may r (mem_selM bs r hr) k hrk with hh | hh
        · omega
        · exact hn hh
      · omega
    have hbd := hbody (w.heap.size + 1) i x z hx hz W2 hK0 hm2.own a1 W2 ⟨st1.has, hm2.own, Keeps.refl _ _⟩
    -- what a body's post says of the blocks of the loop
    have after : ∀ {ms : List Res} {W3 : World}, Post W2 (blocksOf (M z)) ms W3 → ∀ o' : Obj,
        W3.heap[w.heap.size + 1]? = some (.loop { rec .ready none with state := .busy }) ∧ Keeps S1 W1 (W3.putObj (w.heap.size + 1) o') ∧ Mem SI W1 ms (W3.putObj (w.heap.size + 1) o') ∧ (W3.putObj (w.heap.size + 1) o').heap[w.heap.size + 1]? = some o' ∧ (W3.putObj (w.heap.size + 1) o').heap[w.heap.size]? = some (.deferred (some [])) ∧ Keeps (fun k => ¬ B' k) V (W3.putObj (w.heap.size + 1) o') := by
      intro ms W3 hp o'
      have hs3 := hp.keeps.size
      have hnb : ∀ k, blocksOf (M z) k → k ≠ w.heap.size + 1 ∧ k ≠ w.heap.size ∧ ¬ B' k := fun k ⟨r, hr, hrk⟩ => hne hm2 r hr k hrk
      have hl3 : W3.heap[w.heap.size + 1]? = some (.loop { rec .ready none with state := .busy }) := by rw [hp.keeps.block _ (by omega) (fun h => (hnb _ h).1 rfl)]; exact hl2
      have hd3 : W3.heap[w.heap.size]? = some (.deferred (some [])) := by rw [hp.keeps.block _ (by omega) (fun h => (hnb _ h).2.1 rfl)]; exact hd2'
      have hmay : ∀ k, blocksOf (M z) k → W1.heap.size ≤ k ∨ SI k := fun k ⟨r, hr, hrk⟩ => hm2.may r hr k hrk
      have hk3 : Keeps S1 W1 W3 := by
        refine ⟨hp.keeps.os.trans hk2.os, hp.keeps.tape.trans hk2.tape, hp.keeps.output.trans hk2.output, by omega, fun k hklt hn => ?_⟩
        rw [hp.keeps.block k (by omega) ?_, hk2.block k hklt hn]
        intro h
        rcases hmay k h with hh | hh
        · omega
        · exact hn (by rw [hS1]; exact .inl hh)
      have hm3 : Mem SI W1 ms W3 := ⟨hp.mem.holds, fun r hr k hrk => by
        rcases hp.mem.may r hr k hrk with hh | hh
        · exact .inl (by omega)
        · exact hmay k hh, hp.mem.apart⟩
      refine ⟨hl3, hk3.putO _ (.inl (by rw [hS1]; exact .inr (.inr rfl))), hm3.putO _ (fun r hr k hrk => (hne hm3 r hr k hrk).1), World.putObj_heap_same (by omega), (World.putObj_heap_other (by omega)).trans hd3, ?_⟩
      have e0 : Keeps (fun k => ¬ B' k) V Va := hka.mono fun k hk => hk.elim
      have e1 : Keeps (fun k => ¬ B' k) V W2 := by
        rw [← hW2]; exact e0.putO _ (.inl fun hb => by have := hBlt' _ hb; omega)
      exact (e1.trans (hp.keeps.mono fun k hk => (hnb k hk).2.2)).putO _ (.inl fun hb => by have := hBlt' _ hb; omega)
    refine wpIn_mono hbd fun e a3 W3 hq => ?_
    cases e with
    | normal =>
      obtain ⟨z', hz', hp⟩ := hq
      obtain ⟨hl3, hk4, hm4, hl4, hd4, hv4⟩ := after hp (.loop { rec .ready none with state := .ready, pending := none })
      have hend := run_endRound (P := P) none hl3
      refine ⟨_, _, hend, .inl ⟨rfl, ⟨z', hz', ?_, ?_, ?_, ?_⟩, ?_⟩⟩
      · exact hk4
      · exact hm4
      · have : rec .ready none = { rec .ready none with state := .ready, pending := none } := by rw [hrec]
        rw [this]; exact hl4
      · exact hd4
      · exact hv4
    | ret =>
      obtain ⟨y, hy', hp⟩ := hq
      obtain ⟨hl3, hk4, hm4, hl4, hd4, hv4⟩ := after hp (.loop { rec .ready none with state := .done, pending := some .ret })
      have hend := run_endRound (P := P) (some .ret) hl3
      refine ⟨_, _, hend, .inr ⟨rfl, ⟨y, hy', ?_, ?_, ?_, ?_⟩, ?_⟩⟩
      · exact hk4
      · exact hm4
      · have : rec .done (some .ret) = { rec .ready none with state := .done, pending := some .ret } := by rw [hrec]
        rw [this]; exact hl4
      · exact hd4
      · exact hv4
    | _ => exact hq.elim
  · exact ⟨x0, h0, Keeps.refl _ _, ⟨fun r hr => Res.keeps (hmI.holds r hr) hkw1 (fun _ _ h => h), fun r hr k hk => .inr (by rw [← hSI, hM0]; exact ⟨r, hr, hk⟩), hmI.apart⟩, hL1, hK1⟩
  · -- behind the iterator
    have fin : ∀ {ms : List Res} {V : World} (o' : Obj), Keeps S1 W1 V → Mem SI W1 ms V → V.heap[w.heap.size]? = some (.deferred (some [])) →
        St n W w0 l ((.blk w.heap.size (.deferred (some [])) :: ms) ++ selM m js) a (V.putObj (w.heap.size + 1) o') := by
      intro ms V o' hk hm hd
      have hsz := hk.size
      have hp : Post w (blocksOf (selM m (is ++ bs))) (.blk w.heap.size (.deferred (some [])) :: ms) (V.putObj (w.heap.size + 1) o') := by
        have hk' : Keeps S1 W1 (V.putObj (w.heap.size + 1) o') := hk.putO _ (.inl (by rw [hS1]; exact .inr (.inr rfl)))
        have hm' := hm.putO o' (fun r hr k hrk => (hne hm r hr k hrk).1)
        refine ⟨⟨hk'.os.trans hkw1.os, hk'.tape.trans hkw1.tape, hk'.output.trans hkw1.output, by have := hk'.size; omega, fun k hklt hn => ?_⟩, ?_, ?_, ?_⟩
        · rw [hk'.block k (by omega) ?_, hkw1.block k hklt (fun h => h)]
          rw [hS1]
          rintro (h | h | h)
          · exact hn (by rw [selM_append]; rw [← hSI] at h; obtain ⟨r, hr, hrk⟩ := h; exact ⟨r, List.mem_append.2 (.inl hr), hrk⟩)
          · exact hn (by rw [selM_append]; rw [← hB] at h; obtain ⟨r, hr, hrk⟩ := h; exact ⟨r, List.mem_append.2 (.inr hr), hrk⟩)
          · omega
        · intro r hr
          rcases List.mem_cons.1 hr with rfl | hr
          · exact (World.putObj_heap_other (by omega)).trans hd
          · exact hm'.holds r hr
        · intro r hr k hrk
          rcases List.mem_cons.1 hr with rfl | hr
          · simp only [Res.block, Option.some.injEq] at hrk; exact .inl (by omega)
          · rcases hm.may r hr k hrk with h | h
            · exact .inl (by omega)
            · exact .inr (by rw [selM_append]; rw [← hSI] at h; obtain ⟨s, hs, hsk⟩ := h; exact ⟨s, List.mem_append.2 (.inl hs), hsk⟩)
        · refine List.pairwise_cons.2 ⟨fun s hs k hk1 hk2 => ?_, hm.apart⟩
          simp only [Res.block, Option.some.injEq] at hk1
          exact (hne hm s hs k hk2).2.1 hk1.symm
      exact ⟨st.has, st.mem.after st.keeps.size hd2 hnj hp, st.keeps.after st.mem hp⟩
    rintro e V ⟨⟨v, rfl⟩, (⟨z, hz, hk, hm, hl, hd⟩ | ⟨y, hy', hk, hm, hl, hd⟩)⟩
    · refine ⟨none, _, by have := run_endLoop (P := P) hl (by rw [hrec]; simp); rw [hrec] at this; exact this, ?_⟩
      exact hdone w.heap.size z hz a _ (fin _ hk hm hd)
    · refine ⟨some .ret, _, by have := run_endLoop (P := P) hl (by rw [hrec]; simp); rw [hrec] at this; exact this, ?_⟩
      exact hstop w.heap.size y hy' a _ (fin _ hk hm hd)
end
end Go.SL
namespace Go.SL
open Go.RowKit
set_option linter.unusedVariables false
set_option linter.unusedSimpArgs false
section
variable {P : Program} {n : Nat} {W : Nat → Prop} {w0 : World} {l : List (Nat × Value)} {m : List Res} {ops : Array Oper} {Q : Exit → Act → World → Prop} {rest : List Oper} {o : Oper}

theorem Eff.buildSliceE0B {t e : TypeId} {d sz : Nat} (ho : o.op = .buildSlice t 0 #[]) (hd : o.dst = some d) (ht : P.underlying t = some (.slice e)) (hsz : csz P e = some sz) (hdn : Nat.ble (d + 1) n = true) :
  Eff P n W w0 l m o Q Nat (fun _ => True) (fun g => (d, .slice (some ⟨g, 0, none⟩) 0 0) :: l) (fun g => .blk g (.cells #[] e (0, 0)) :: m) := by
 intro a w K st h
 have hrun : (Instr.buildSlice t 0 #[]).run P w = .ok (.slice (some ⟨w.heap.size, 0, none⟩) 0 0) (w.alloc (.cells #[] e (0, 0))) := by
  have he : (Array.map (fun x => (default : Value)) (Array.range 0)) = #[] := by simp
  simp [Instr.buildSlice, run_underlying ht, run_sizeOf hsz, newRow, Instr.fill, he]
 have hr : (execOp a.eval o).run P w = .ok (.value (.slice (some ⟨w.heap.size, 0, none⟩) 0 0)) (w.alloc (.cells #[] e (0, 0))) := by
  simp [execOp, ho, hrun]
 unfold Oper.wp
 rw [hr, Oper.upon_value, hd]
 refine h w.heap.size trivial _ _ ⟨st.has.put _ hdn, ?_, st.keeps.trans (Keeps.alloc W w _)⟩
 exact st.mem.cons_new (Keeps.alloc none1 w _) st.keeps.size (heap_alloc_new w _) (fun k hk => by simp [Res.block] at hk; omega)

/-- the cells of a fresh row: the elements, then what there is room for -/
structure FreshRow (sz k : Nat) (news : List Value) (c : Nat) (cs : Array Value) : Prop where
 cap : k ≤ c
 max : c ≤ maxLen
 size : cs.size = c * sz
 take : cs.toList.take (k * sz) = news
 len : news.length = k * sz


/-- append([]T{}, s...) -/
theorem Eff.appendE0 {sl x : Operand} {t tx e e' : TypeId} {d sz by' g0 mm c : Nat} {ax : Option Addr} {news : List Value} (i : Nat) (js : List Nat) (ho : o.op = .call { callee := .builtin .append, args := #[sl, x], argTypes := #[t, tx] }) (hv : ev l sl = some (.slice (some ⟨g0, 0, none⟩) 0 0)) (hx : ev l x = some (.slice ax mm c))
  (hm : nth m i = some (.blk g0 (.cells #[] e (0, 0)))) (ht : P.underlying t = some (.slice e)) (htx : P.underlying tx = some (.slice e')) (hi : rowInfo P e = some (sz, by')) (hr : ∀ w, Mem W w0 m w → Keeps W w0 w → RC sz w ax mm news) (h1 : ∀ u ∈ news, u.oneCell' = true)
  (hd : o.dst = some d) (hdn : Nat.ble (d + 1) n = true) (hdj : disj [i] js = true) (hjs : nod js = true) (hb : mm ≤ 140737488355328) (hb2 : mm * by' ≤ 140737488355328) :
  Eff P n W w0 l m o Q (Nat × Nat × Array Value) (fun y => FreshRow sz mm news y.2.1 y.2.2) (fun y => (d, .slice (some ⟨y.1, 0, none⟩) mm y.2.1) :: l) (fun y => .blk y.1 (.cells y.2.2 e (0, 0)) :: selM m js) := by
 intro a w K st h
 obtain ⟨inf, z, hi1, hz, hzs, hpos, hsz, hby⟩ := rowInfo_spec hi
 subst hsz hby
 have hsrc := Src.ofRC (P := P) htx (hr w st.mem st.keeps) h1 (c := c)
 have hb0 := st.mem.blk hm
 have hlen : news.length = mm * inf.size := (hr w st.mem st.keeps).1
 have hgd : g0 < w.heap.size := (Array.getElem?_eq_some_iff.1 hb0).1
 by_cases h0 : mm = 0
 ·
  subst h0
  have hn : news = [] := List.eq_nil_of_length_eq_zero (by simpa using hlen)
  subst hn
  have hrun : (Builtin.append_ #[t, tx] o.type #[.slice (some ⟨g0, 0, none⟩) 0 0, .slice ax 0 c]).run P w = .ok (.slice (some ⟨g0, 0, none⟩) 0 0) w := by
   have := run_append_room_src (P := P) w t tx o.type e inf ht hi1 g0 0 0 0 (.slice ax 0 c) 0 [] hsrc (by omega) (by simp) (by simp)
   rw [this]
   congr 1
  have hr : (execOp a.eval o).run P w = .ok (.value (.slice (some ⟨g0, 0, none⟩) 0 0)) w := by
   simp [execOp, ho, resolve, invoke, builtin, st.has.ev hv, st.has.ev hx, hrun]
  unfold Oper.wp
  rw [hr, Oper.upon_value, hd]
  have hp : Post w (blocksOf (selM m [i])) [.blk g0 (.cells #[] e (0, 0))] w := by
   have := st.mem.own.sel [i] rfl
   have e1 : selM m [i] = [.blk g0 (.cells #[] e (0, 0))] := by simp [selM, hm]
   rw [e1] at this ⊢
   exact ⟨Keeps.refl _ _, this.own⟩
  exact h (g0, 0, #[]) ⟨Nat.le_refl _, by show (0 : Nat) ≤ maxLen; unfold maxLen; omega, by simp, by simp, by simp⟩ _ _ ⟨st.has.put _ hdn, by simpa using st.mem.after st.keeps.size hdj hjs hp, st.keeps.after st.mem hp⟩
 ·
  have hrun := run_append_grow_src (P := P) w t tx o.type e inf z ht hi1 hz (some ⟨g0, 0, none⟩) 0 0 [] (run_firstCells_some w.drew inf.size 0 ⟨g0, 0, none⟩ 0 0 [] (by simp) (by simp)) (.slice ax mm c) mm news hsrc (by omega) (by omega) (growslice_fits (by omega) (by rw [Nat.zero_add]; omega))
  simp only [Nat.zero_add, List.nil_append] at hrun
  have hge := grownCap_ge w mm 0 e
  have hcm2 : grownCap w mm 0 e ≤ maxLen := grownCap_le_maxLen w mm 0 e (by unfold maxLen; omega)
  obtain ⟨cs, hcs⟩ : ∃ cs, (news.toArray ++ Builtin.zeroCells z.cells (grownCap w mm 0 e - mm)) = cs := ⟨_, rfl⟩
  rw [hcs] at hrun
  have hF : FreshRow inf.size mm news (grownCap w mm 0 e) cs := by
   refine ⟨hge, hcm2, ?_, ?_, hlen⟩
   ·
    rw [← hcs]
    simp only [Array.size_append, List.size_toArray, size_zeroCells, hzs, hlen]
    rw [← Nat.add_mul]
    congr 1
    omega
   ·
    rw [← hcs]
    simp only [Array.toList_append, ← hlen]
    exact List.take_left
  have hr : (execOp a.eval o).run P w = .ok (.value (.slice (some ⟨w.heap.size, 0, none⟩) mm (grownCap w mm 0 e))) (w.drew.alloc (.cells cs e (0, 0))) := by
   simp [execOp, ho, resolve, invoke, builtin, st.has.ev hv, st.has.ev hx, hrun]
  unfold Oper.wp
  rw [hr, Oper.upon_value, hd]
  have hkp : Keeps none1 w (w.drew.alloc (.cells cs e (0, 0))) := (Keeps.drew none1 w).trans (Keeps.alloc none1 _ _)
  have hnew : (w.drew.alloc (.cells cs e (0, 0))).heap[w.heap.size]? = some (.cells cs e (0, 0)) := heap_alloc_new w.drew _
  exact h (w.heap.size, _, cs) hF _ _ ⟨st.has.put _ hdn, (st.mem.sel js hjs).cons_new hkp st.keeps.size hnew (fun k hk => by simp [Res.block] at hk; omega), st.keeps.trans hkp.weak⟩

/-- the address of an owned row, in a region whose order is drawn -/
theorem OkH.rowAddr2 {mS : List Res} {fuel : Nat} {listed : List Bool} (i : Nat) {v : Value} {e : TypeId} {sz k : Nat} {xs : List Value} (hm : nth m i = some (.row v e sz k xs)) (h : (v = .slice none 0 0 ∧ k = 0) ∨ (∃ g c, v = .slice (some ⟨g, 0, none⟩) k c ∧ k ≤ c) → OkH P n W w0 mS ops Q fuel listed l m) : OkH P n W w0 mS ops Q fuel listed l m := fun a w st => by
 have hown : w.ownsRowF 0 e sz v k xs := by rw [nth_eq] at hm; exact st.mem.holds _ (List.mem_of_getElem? hm)
 refine h ?_ a w st
 rcases hown.2 with h | ⟨g, cap, cur, fz, rfl, _, _, _, h1, h2, _⟩
 ·
  exact .inl h
 ·
  exact .inr ⟨g, cap, rfl, h1⟩
/-- a store into bare cells -/
theorem Eff.storeC {t : TypeId} {x y : Operand} {b off : Nat} {v : Value} (i : Nat) {cs : Array Value} {T : TypeId} (ho : o.op = .store t x y) (hd : o.dst = none) (hx : ev l x = some (.pointer (some ⟨b, off, none⟩))) (hy : ev l y = some v) (hv : v.oneCell' = true)
  (hm : nth m i = some (.blk b (.cells cs T (0, 0)))) (hk : csz P t = some 1) (hoff : off < cs.size) :
  Eff P n W w0 l m o Q Unit (fun _ => True) (fun _ => l) (fun _ => setN m i (.blk b (.cells (cs.setIfInBounds off v) T (0, 0)))) := by
 intro a w K st h
 have hb := st.mem.blk hm
 have hlt : b < w.heap.size := (Array.getElem?_eq_some_iff.1 hb).1
 have hr : (execOp a.eval o).run P w = .ok .skip (w.setRow b (cs.setIfInBounds off v)) := by
  simp [execOp, ho, st.has.ev hx, st.has.ev hy, run_store1 hb hv hk hoff]
 unfold Oper.wp
 rw [hr, Oper.upon_skip, hd]
 refine h () trivial _ _ ⟨st.has, ?_, ?_⟩
 ·
  exact st.mem.set hm (setRow_heap w b _ _ T _ hb) (by simp [World.setRow]) (fun k hk _ => setRow_other w b k _ hk)
 ·
  rw [nth_eq] at hm
  exact st.keeps.write (st.mem.may _ (List.mem_of_getElem? hm) b rfl) rfl rfl rfl (by simp [World.setRow]) (fun k hk _ => setRow_other w b k _ hk)
/-- a load out of bare cells -/
theorem Pure.loadRaw {t : TypeId} {x : Operand} {b off : Nat} {v : Value} (i : Nat) {cs : Array Value} {T : TypeId} {fz : Nat × Nat} (ho : o.op = .load t x) (hx : ev l x = some (.pointer (some ⟨b, off, none⟩))) (hm : nth m i = some (.blk b (.cells cs T fz))) (hv : cs[off]? = some v) (ht : aggB P t = some false) : Pure P n W w0 l m o v :=
 Pure.loadC ho hx ht fun w hM _ => by rw [Lib.cell_of_heap (hM.blk hm)]; exact hv
end
end Go.SL
namespace Go.Proofs.YthfhhkanpnemcaaGreatDoor
theorem O {α : Sort _} {a : α} : a = a := rfl
abbrev aa := @Go.SL.Ok.op
abbrev ae := @Go.SL.Ok.normThen
abbrev af := @Go.SL.Pure.move
abbrev ag := @Go.SL.Ok.opS
abbrev ah := @Go.SL.Ok.seq
abbrev ai := @Go.SL.Ok.nil
abbrev aj := @Go.SL.Ok.region
abbrev ak := @Go.SL.Pure.assign
abbrev al := @Go.SL.Pure.load1
abbrev am := @Go.SL.Ok.eff
abbrev ap := @Go.SL.Eff.storeG
abbrev aq := @Go.SL.Ok.opG
abbrev ar := @Go.SL.resL
abbrev au := @Go.SL.Pure.fieldAddr
abbrev av := @Go.SL.retHere
abbrev aw := @Go.SL.Ok.ret
abbrev ay := @Go.SL.Pure.loadA
abbrev az := @Go.SL.Quiet.pure
abbrev aA := @Go.SL.OkQ.op
abbrev aB := @Go.SL.retThen
abbrev aC := @Go.SL.Ok.skip'
abbrev aD := @Go.SL.OkS.op
abbrev aE := @Go.SL.Pure.pickF
abbrev aF := @Go.SL.Pure.pickT
abbrev aG := @Go.SL.OkH.take
abbrev aH := @Go.SL.Ok.cond
abbrev aI := @Go.SL.Ok.exThen
abbrev aJ := @Go.SL.calls_ok
abbrev aK := @Go.SL.Ok.block
abbrev aL := @Go.SL.Pure.addI
abbrev aM := @Go.SL.Eff.call
abbrev aN := @Go.SL.Eff.callV
abbrev aO := @Go.SL.Mem.nil
abbrev aP := @Go.SL.retBlock
abbrev aQ := @Go.SL.Ok.normBlock
abbrev aR := @Go.SL.Ok.split
abbrev aS := @Go.SL.Ok.opI
abbrev aT := @Go.SL.Pure.lss
abbrev aU := @Go.SL.Ok.exit
abbrev aV := @Go.SL.Ok.exHere
abbrev aW := @Go.SL.Pure.extract
abbrev aX := @Go.SL.Eff.alloc
abbrev aY := @Go.SL.OkH.eff
abbrev aZ := @Go.SL.Pure.nilCheck
abbrev ba := @Go.SL.Pure.addS
abbrev bd := @Go.SL.Ok.round
abbrev bf := @Go.SL.Pure.lenS
abbrev bg := @Go.SL.Pure.build
abbrev bh := @Go.SL.Eff.box
abbrev bi := @Go.SL.Ok.normThenI
abbrev bj := @Go.SL.retB
abbrev bk := @Go.SL.Ok.condT
abbrev bl := @Go.SL.Pure.nei
abbrev bq := @Go.SL.Ok.condF
abbrev bt := @Go.SL.Pure.eqi
abbrev bu := @Go.SL.Ok.loop
abbrev bw := @Go.SL.Pure.lenSl
abbrev bx := @Go.SL.Pure.indexAddrS
abbrev bz := @Go.SL.Ok.roundS
abbrev bA := @Go.SL.Ok.seqI
abbrev bB := @Go.SL.Pure.geq
abbrev bC := @Go.SL.Ok.nilI
abbrev bD := @Go.SL.Pure.leq
abbrev bE := @Go.SL.Ok.regionI
abbrev bF := @Go.SL.Eff.appendR
abbrev bG := @Go.SL.OkQ.opG
abbrev bH := @Go.SL.Pure.gtr
abbrev bI := @Go.SL.Ok.via
abbrev bJ := @Go.SL.Eff.at
abbrev bK := @Go.SL.Mem.rc
abbrev bL := @Go.SL.Quiet.call
abbrev bM := @Go.SL.Pure.not
abbrev bN := @Go.SL.OkH.done
abbrev bO := @Go.SL.Ok.opU
abbrev bP := @Go.SL.Ok.effI
abbrev bQ := @Go.SL.Pure.indexS
abbrev bR := @Go.SL.Pure.indexAddrA
abbrev bS := @Go.SL.OkQ.opS
abbrev bT := @Go.SL.Pure.convW
abbrev bU := @Go.SL.Pure.subI
abbrev bV := @Go.SL.OkS.tail
abbrev bW := @Go.SL.Eff.buildSlice
abbrev bX := @Go.SL.Ok.still
abbrev bY := @Go.SL.Pure.indexAg
abbrev bZ := @Go.SL.Eff.ofPure
abbrev cd := @Go.SL.OkH.takeG
abbrev ce := @Go.SL.Pure.loadAt
abbrev cf := @Go.SL.Ok.condF'
abbrev ch := @Go.SL.Pure.addU32
abbrev ci := @Go.SL.Ok.fin
abbrev cj := @Go.SL.Pure.loadRC
abbrev ck := @Go.SL.Ok.held
abbrev cl := @Go.SL.Eff.storeB
abbrev cm := @Go.SL.Ok.exOther
abbrev cn := @Go.SL.B.at
abbrev co := @Go.SL.ND.call
abbrev cq := @Go.SL.Ok.join
abbrev cr := @Go.SL.Pure.and
abbrev ct := @Go.SL.Pure.mulI
abbrev cu := @Go.SL.Pure.shr
abbrev cv := @Go.SL.Pure.shl
abbrev cw := @List.cons_append
abbrev cx := @List.nil_append
end Go.Proofs.YthfhhkanpnemcaaGreatDoor
