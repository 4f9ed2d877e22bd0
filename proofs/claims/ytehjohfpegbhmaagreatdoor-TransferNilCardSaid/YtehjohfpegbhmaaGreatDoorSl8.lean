/- A small logic for walks: what arguments that came in read as. -/
import Derived.Test.YtehjohfpegbhmaaGreatDoorSl7
import Derived.ProofKit
import Derived.OpenShut
import Derived.ChangeOld
import Derived.ShutString
import Derived.SizedLaws
namespace Go.SL
open Go.RowKit

section
variable {H : Type} {enc : TypeId × Value → H} {P : Program} {w : World} {base : Nat} {spare : Nat → Bool} {held : Bool}

/-- the cells of an element that lies at an address -/
def ElemAt (w : World) (a : Addr) (es : List Seg) : Prop := a.block < w.heap.size ∧ ∀ j v, (flat es)[j]? = some v → w.cell? (a.add j) = some v

def RdL (R : TypeId → List Seg → Prop) : List Field → List Seg → Prop
  | [], ss => ss = []
  | f :: r, ss => ∃ p q, ss = p ++ q ∧ R f.type p ∧ RdL R r q

/-- segments that are a value of a type, as far as it is read -/
def Rd (P : Program) (w : World) : Nat → TypeId → List Seg → Prop
  | 0, _, _ => False
  | g + 1, t, ss => match P.underlying t with
    | some .bool => ∃ b : Bool, ss = [.one (.bool b) rfl]
    | some (.int k) => ∃ n : Int, ss = [.one (.int k n) rfl] ∧ (Lit.int k n).wf = true
    | some .string => ∃ l : List UInt8, ss = [.one (str l) rfl] ∧ l.length ≤ 140737488351232
    | some (.slice e) => ∃ (a : Option Addr) (len cap : Nat), ss = [.one (.slice a len cap) rfl] ∧ ((a = none ∧ len = 0 ∧ cap = 0) ∨ ∃ ad, a = some ad ∧ len ≤ cap ∧ cap ≤ maxLen ∧ len * P.bytesOf e ≤ 140737488351232 ∧ ∃ E : Nat → List Seg, ∀ i, i < len → ElemAt w (ad.add (i * P.cellsOf e)) (E i) ∧ Rd P w g e (E i))
    | some (.struct fs) => RdL (Rd P w g) fs.toList ss
    | some (.array n _) => ∃ b : B n, ss = [b.seg]
    | _ => False

def conB (P : Program) : List Field → Nat → Nat → Bool
  | [], s, tot => s == tot
  | f :: r, s, tot => f.offset == s && conB P r (s + P.cellsOf f.type) tot

def goodB (P : Program) : Nat → TypeId → Bool
  | 0, _ => false
  | g + 1, t => match P.underlying t with
    | some .bool => true
    | some (.int _) => true
    | some .string => true
    | some (.slice e) => goodB P g e && !(P.cellsOf e == 0)
    | some (.struct fs) => conB P fs.toList 0 (P.cellsOf t) && fs.toList.all fun f => goodB P g f.type
    | some (.array n e) => (match P.underlying e with | some (.int .u8) => true | _ => false) && (P.cellsOf e == 1) && (P.cellsOf t == n)
    | _ => false

theorem cells?_spec {a : Addr} {k : Nat} {cs : List Value} (h : w.cells? base a k = some cs) : cs.length = k ∧ ∀ j v, cs[j]? = some v → w.cell? (a.add j) = some v := by
  unfold World.cells? at h
  split at h
  · have hl : ∀ (l : List Nat) (cs : List Value), l.mapM (fun i => w.cell? (a.add i)) = some cs → cs.length = l.length ∧ ∀ (j : Nat) (v : Value), cs[j]? = some v → ∃ i : Nat, l[j]? = some i ∧ w.cell? (a.add i) = some v := by
      intro l
      induction l with
      | nil => intro cs hc; simp at hc; subst hc; simp
      | cons x l ih =>
        intro cs hc
        simp only [List.mapM_cons, Option.bind_eq_bind, Option.pure_def] at hc
        cases h1 : w.cell? (a.add x) with
        | none => simp [h1] at hc
        | some v =>
          cases h2 : l.mapM (fun i => w.cell? (a.add i)) with
          | none => simp [h1, h2] at hc
          | some vs =>
            simp [h1, h2] at hc
            subst hc
            obtain ⟨h3, h4⟩ := ih vs h2
            refine ⟨by simp [h3], fun j u hj => ?_⟩
            cases j with
            | zero => simp at hj; subst hj; exact ⟨x, by simp, h1⟩
            | succ j => simp at hj; obtain ⟨i, hi, hc⟩ := h4 j u hj; exact ⟨i, by simpa using hi, hc⟩
    obtain ⟨h1, h2⟩ := hl _ _ h
    refine ⟨by simpa using h1, fun j v hj => ?_⟩
    obtain ⟨i, hi, hc⟩ := h2 j v hj
    have hj' := (List.getElem?_eq_some_iff.1 hi)
    obtain ⟨h3, h4⟩ := hj'
    simp at h4
    subst h4
    exact hc
  · cases h

theorem flat_flatten_seg (l : List Value) (h : l.all Value.oneCell' = true) : ∃ ss : List Seg, l = (flat ss).toList := by
  induction l with
  | nil => exact ⟨[], rfl⟩
  | cons v l ih =>
    simp only [List.all_cons, Bool.and_eq_true] at h
    obtain ⟨ss, hs⟩ := ih h.2
    exact ⟨.one v h.1 :: ss, by simp [flat, Seg.cs, ← hs]⟩

theorem bytes_of_cells {n : Nat} {cs : List Value} (hl : cs.length = n) (h : ∀ i, i < n → ∃ m : Int, (cs.drop i).take 1 = [.int .u8 m] ∧ (Lit.int .u8 m).wf = true) : ∃ b : B n, cs = (flat [b.seg]).toList := by
  have h' : ∃ l : List UInt8, cs = l.map fun x => Value.int .u8 x.toNat := by
    refine ⟨cs.map fun v => match v with | .int _ m => UInt8.ofNat m.toNat | _ => 0, ?_⟩
    apply List.ext_getElem?
    intro i
    rw [List.getElem?_map, List.getElem?_map]
    by_cases hi : i < n
    · obtain ⟨m, hm, hw⟩ := h i hi
      have hc : cs[i]? = some (.int .u8 m) := by
        have := congrArg (fun l => l[0]?) hm
        simpa [List.getElem?_take, List.getElem?_drop] using this
      have hb : 0 ≤ m ∧ m < 256 := by
        have := bounds_u8 hw
        omega
      rw [hc]
      simp only [Option.map_some]
      congr 2
      have : (UInt8.ofNat m.toNat).toNat = m.toNat := by
        rw [UInt8.toNat_ofNat']
        omega
      rw [this]
      omega
    · rw [List.getElem?_eq_none (by omega)]
      rfl
  obtain ⟨l, hl'⟩ := h'
  exact ⟨⟨l, by rw [hl'] at hl; simpa using hl⟩, by simp [flat, B.seg, Seg.cs, byteA, hl']⟩

theorem weightsAll_mem {P : Program} {e : TypeId} : ∀ {ds : List (DataW H)} {i : Nat} {d : DataW H}, ds[i]? = some d → ∀ n ∈ d.weights P e, n ∈ DataW.weightsAll P e ds
  | d0 :: ds, 0, d, h, n, hn => by
    simp at h; subst h
    simp only [DataW.weightsAll, List.mem_append]; exact .inl hn
  | d0 :: ds, i + 1, d, h, n, hn => by
    simp only [DataW.weightsAll, List.mem_append]; exact .inr (weightsAll_mem (by simpa using h) n hn)
  | [], _, _, h, _, _ => by simp at h

theorem trod_rd : ∀ (g fuel : Nat) (t : TypeId) (cs : List Value) (x : DataW H × List MemPlace), goodB P g t = true → (∀ k ∈ DataW.weights P t x.1, k ≤ reachBytes) → DataW.trod enc P w base spare held fuel t cs = some x → ∃ ss, cs = (flat ss).toList ∧ Rd P w g t ss
  | 0, fuel, t, cs, x, hg, hwt, h => by simp [goodB] at hg
  | g + 1, fuel, t, cs, x, hg, hwt, h => by
    unfold goodB at hg
    unfold Rd
    cases hu : P.underlying t with
    | none => simp [hu] at hg
    | some ty =>
      cases ty <;> simp only [hu] at hg <;> try (simp at hg; done)
      case bool =>
        obtain ⟨b, rfl, _⟩ := DataW.trod_bool hu h
        exact ⟨_, rfl, b, rfl⟩
      case int k =>
        obtain ⟨n, rfl, _, hw⟩ := DataW.trod_int hu h
        exact ⟨_, rfl, n, rfl, hw⟩
      case string =>
        obtain ⟨s, rfl, rfl, hs⟩ := DataW.trod_string hu h
        refine ⟨[.one (str s.data.toList) rfl], ?_, s.data.toList, rfl, hwt _ (by simp [DataW.weights])⟩
        simp [flat, Seg.cs, str]
      case slice e =>
        simp only [Bool.and_eq_true, Bool.not_eq_true', beq_eq_false_iff_ne] at hg
        rcases DataW.trod_slice hu h with ⟨rfl, _⟩ | ⟨a, len, cap, elems, rest, n, _, rfl, rfl, _, hlc, hcm, hel, hel2, _⟩
        · exact ⟨[.one (.slice none 0 0) rfl], rfl, none, 0, 0, rfl, .inl ⟨rfl, rfl, rfl⟩⟩
        · have hbytes : len * P.bytesOf e ≤ 140737488351232 := by
            have h1 := hwt (((elems.map (·.1)).length + (rest.map (·.1)).length) * P.bytesOf e) (by simp [DataW.weights, hu])
            simp only [List.length_map, hel] at h1
            exact Nat.le_trans (Nat.mul_le_mul_right _ (Nat.le_add_right _ _)) h1
          refine ⟨[.one (.slice (some a) len cap) rfl], rfl, some a, len, cap, rfl, .inr ⟨a, rfl, hlc, hcm, hbytes, ?_⟩⟩
          have key : ∀ i, i < len → ∃ es, ElemAt w (a.add (i * P.cellsOf e)) es ∧ Rd P w g e es := by
            intro i hi
            have h1 := hel2 i hi
            have h2 : elems[i]? = some elems[i] := List.getElem?_eq_getElem (by omega)
            rw [h2] at h1
            cases hc : w.cells? base (a.add (i * P.cellsOf e)) (P.cellsOf e) with
            | none => simp [hc] at h1
            | some cs' =>
              simp only [hc, Option.bind_some] at h1
              obtain ⟨hl, hcell⟩ := cells?_spec hc
              obtain ⟨es, hes, hrd⟩ := trod_rd g n e cs' _ hg.1 (fun k hk => hwt k (by
                simp only [DataW.weights, hu, List.mem_cons, List.mem_append]
                exact .inr (.inl (weightsAll_mem (i := i) (by rw [List.getElem?_map, h2]; rfl) k hk)))) h1
              refine ⟨es, ⟨?_, fun j v hj => hcell j v (by rw [hes]; simpa using hj)⟩, hrd⟩
              have hpos : 0 < cs'.length := by rw [hl]; omega
              have h0 := hcell 0 cs'[0] (List.getElem?_eq_getElem hpos)
              simp only [Addr.add, if_true] at h0
              unfold World.cell? at h0
              split at h0
              · rename_i c _ _ hb
                have := (Array.getElem?_eq_some_iff.1 hb).1
                exact this
              · cases h0
          classical
          exact ⟨fun i => if hi : i < len then (key i hi).choose else [], fun i hi => by simp only [dif_pos hi]; exact (key i hi).choose_spec⟩
      case array n e =>
        simp only [Bool.and_eq_true, beq_iff_eq] at hg
        obtain ⟨xs, m, _, _, hl, hxl, hx⟩ := DataW.trod_array hu h
        obtain ⟨b, hb⟩ := bytes_of_cells (n := n) (by rw [hl]; exact hg.2) (fun i hi => by
          have h1 := hx i hi
          rw [hg.1.2, Nat.mul_one] at h1
          have h2 : xs[i]? = some xs[i] := List.getElem?_eq_getElem (by omega)
          rw [h2] at h1
          have hu8 : P.underlying e = some (.int .u8) := by
            have := hg.1.1
            split at this
            · assumption
            · cases this
          obtain ⟨k, hk, _, hw⟩ := DataW.trod_int hu8 h1
          exact ⟨k, hk, hw⟩)
        exact ⟨[b.seg], hb, b, rfl⟩
      case struct fs =>
        simp only [Bool.and_eq_true] at hg
        obtain ⟨xs, m, _, rfl, hl, hxl, hx⟩ := DataW.trod_struct hu h
        have key : ∀ (l : List Field) (s : Nat), conB P l s (P.cellsOf t) = true → (∀ f ∈ l, goodB P g f.type = true) → (∀ f ∈ l, ∃ x, DataW.trod enc P w base spare held m f.type ((cs.drop f.offset).take (P.cellsOf f.type)) = some x ∧ ∀ k ∈ DataW.weights P f.type x.1, k ≤ reachBytes) →
            ∃ ss, cs.drop s = (flat ss).toList ∧ RdL (Rd P w g) l ss := by
          intro l
          induction l with
          | nil =>
            intro s hc _ _
            simp only [conB, beq_iff_eq] at hc
            exact ⟨[], by simp [flat, List.drop_eq_nil_iff]; omega, rfl⟩
          | cons f l ih =>
            intro s hc hgl hxl
            simp only [conB, Bool.and_eq_true, beq_iff_eq] at hc
            obtain ⟨x, hxf, hxw⟩ := hxl f (by simp)
            obtain ⟨p, hp, hrp⟩ := trod_rd g m f.type _ _ (hgl f (by simp)) hxw hxf
            obtain ⟨q, hq, hrq⟩ := ih (s + P.cellsOf f.type) hc.2 (fun f' hf' => hgl f' (by simp [hf'])) (fun f' hf' => hxl f' (by simp [hf']))
            refine ⟨p ++ q, ?_, p, q, rfl, hrp, hrq⟩
            rw [flat_append, Array.toList_append, ← hp, ← hq, hc.1, ← List.drop_drop, List.take_append_drop]
        obtain ⟨ss, hss, hr⟩ := key fs.toList 0 hg.1 (fun f hf => List.all_eq_true.1 hg.2 f hf) (fun f hf => by
          obtain ⟨i, hi, rfl⟩ := List.mem_iff_getElem.1 hf
          have hi' : i < fs.size := by simpa using hi
          have h1 := hx i fs[i] (Array.getElem?_eq_getElem hi')
          have h2 : xs[i]? = some xs[i] := List.getElem?_eq_getElem (by omega)
          refine ⟨xs[i], by rw [← h2, ← h1]; simp, fun k hk => hwt k ?_⟩
          simp only [DataW.weights, hu]
          exact DataW.weights_mem_each (j := i) (t := (fs.toList[i]).type) (d := xs[i].1) (by rw [List.getElem?_map, List.getElem?_eq_getElem hi]; rfl) (by rw [List.getElem?_map, h2]; rfl) k hk)
        exact ⟨ss, by simpa using hss, hr⟩
end
end Go.SL
