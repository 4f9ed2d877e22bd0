/- Plain facts: what stands in texts, and which texts tell their values. Plain facts: printable texts, names, distributions. Plain facts: a control text that is read without error has no line feed. Plain facts: base64 is read back. Plain law: a canonical form tells its content; it is the reference's. From what came in: the argument's slices read as lists; the package variables hold what they hold. -/
import Derived.Test.YthfhhkanpnemcaaGreatDoorME
import Derived.Test.YthfhhkanpnemcaaGreatDoorMC
import Derived.Laws.RangeAny
import Derived.Test.YthfhhkanpnemcaaGreatDoorRows
import Derived.Test.YthfhhkanpnemcaaGreatDoorMD
import Derived.Lib.LaidTab
import Derived.LaidSub
import Derived.MakeChecks
namespace Go.Proofs.YthfhhkanpnemcaaGreatDoor
open Go.SL Go.RowKit
set_option linter.unusedVariables false
set_option maxRecDepth 100000
set_option linter.unusedSimpArgs false

theorem split_at {c : UInt8} : ∀ {x y r s : List UInt8}, c ∉ x → c ∉ y → x ++ c :: r = y ++ c :: s → x = y ∧ r = s
 | [], [], r, s, _, _, h => ⟨rfl, by simpa using h⟩
 | [], b :: y, r, s, _, hy, h => by
  simp only [List.nil_append, List.cons_append, List.cons.injEq] at h
  exact absurd (h.1 ▸ List.mem_cons_self) hy
 | a :: x, [], r, s, hx, _, h => by
  simp only [List.nil_append, List.cons_append, List.cons.injEq] at h
  exact absurd (h.1 ▸ List.mem_cons_self) hx
 | a :: x, b :: y, r, s, hx, hy, h => by
  simp only [List.cons_append, List.cons.injEq] at h
  obtain ⟨rfl, h⟩ := h
  obtain ⟨rfl, rfl⟩ := split_at (fun hh => hx (List.mem_cons_of_mem _ hh)) (fun hh => hy (List.mem_cons_of_mem _ hh)) h
  exact ⟨rfl, rfl⟩

/-! ### decimal -/
theorem dec_chars : ∀ (u : Nat), ∀ c ∈ Lib.decDigits u, 48 ≤ c.toNat ∧ c.toNat ≤ 57 := by
 intro u
 induction u using Nat.strongRecOn with
 | _ u ih =>
  intro c hc
  by_cases h : u < 10
  ·
   rw [dec_small h, List.mem_singleton] at hc
   subst hc
   rw [UInt8.toNat_ofNat']
   omega
  ·
   rw [dec_big h, List.mem_append, List.mem_singleton] at hc
   rcases hc with hc | hc
   ·
    exact ih (u / 10) (by omega) c hc
   ·
    subst hc
    rw [UInt8.toNat_ofNat']
    omega
def decVal (l : List UInt8) : Nat := l.foldl (fun n c => 10 * n + (c.toNat - 48)) 0
theorem decVal_dec : ∀ u, decVal (Lib.decDigits u) = u := by
 intro u
 induction u using Nat.strongRecOn with
 | _ u ih =>
  by_cases h : u < 10
  ·
   rw [dec_small h]
   simp only [decVal, List.foldl_cons, List.foldl_nil]
   rw [UInt8.toNat_ofNat']
   omega
  ·
   rw [dec_big h]
   have := ih (u / 10) (by omega)
   unfold decVal at this ⊢
   rw [List.foldl_append, this]
   simp only [List.foldl_cons, List.foldl_nil]
   rw [UInt8.toNat_ofNat']
   omega
theorem dec_inj {u v : Nat} (h : Lib.decDigits u = Lib.decDigits v) : u = v := by rw [← decVal_dec u, h, decVal_dec]
theorem decI_inj {a b : Int} (ha : 0 ≤ a) (hb : 0 ≤ b) (h : Lib.decDigits a.toNat = Lib.decDigits b.toNat) : a = b := by
 have := dec_inj h
 omega

/-! ### hexadecimal -/
theorem hexd_mem : ∀ q, q < 16 → hexd q ∈ HX := by decide
theorem hexs_mem (l : List UInt8) : ∀ c ∈ hexs l, c ∈ HX := by
 intro c hc
 unfold hexs at hc
 rw [List.mem_flatMap] at hc
 obtain ⟨x, _, hx⟩ := hc
 have := x.toNat_lt
 simp only [hex2, List.mem_cons, List.not_mem_nil, or_false] at hx
 rcases hx with rfl | rfl
 ·
  exact hexd_mem _ (by omega)
 ·
  exact hexd_mem _ (by omega)
theorem uh2_hex (c : UInt8) : uh2 (hexd (c.toNat / 16)) (hexd (c.toNat % 16)) = c := by
 have h : ∀ k, k < 256 → uh2 (hexd (k / 16)) (hexd (k % 16)) = UInt8.ofNat k := by decide
 have := h c.toNat c.toNat_lt
 rwa [UInt8.ofNat_toNat] at this
theorem uhx_hexs : ∀ l : List UInt8, uhx (hexs l) = l
 | [] => rfl
 | c :: l => by
  show uhx (hexd (c.toNat / 16) :: hexd (c.toNat % 16) :: hexs l) = c :: l
  rw [uhx, uh2_hex, uhx_hexs l]
theorem hexs_inj {a b : List UInt8} (h : hexs a = hexs b) : a = b := by rw [← uhx_hexs a, h, uhx_hexs]
theorem hexB_inj {n : Nat} {a b : B n} (h : hexs a.l = hexs b.l) : a = b := B.ext (hexs_inj h)
theorem idt_inj {a b : B 32} (h : idt a.l = idt b.l) : a = b := by
 unfold idt at h
 have h1 := List.append_inj_left h (by simp [hexs_len, a.h, b.h])
 exact hexB_inj (List.append_cancel_left h1)
def IX : List UInt8 := [60, 64, 104, 97, 115, 104, 62] ++ HX
theorem idt_mem (l : List UInt8) : ∀ c ∈ idt l, c ∈ IX := by
 intro c hc
 unfold idt at hc
 unfold IX
 simp only [List.mem_append] at hc ⊢
 rcases hc with (hc | hc) | hc
 ·
  simp only [List.mem_singleton] at hc; subst hc; exact .inl (by decide)
 ·
  exact .inr (hexs_mem l c hc)
 ·
  refine .inl ?_
  simp only [List.mem_cons, List.not_mem_nil, or_false] at hc ⊢
  exact .inr hc
theorem msgM_inj {a b : B 32} (h : msgM a = msgM b) : a = b := by
 unfold msgM at h
 split at h
 ·
  split at h
  ·
   rename_i h1 h2; rw [h1, h2]
  ·
   have := congrArg List.length h; rw [idt_len] at this; simp at this
 ·
  split at h
  ·
   have := congrArg List.length h; rw [idt_len] at this; simp at this
  ·
   exact idt_inj h

/-! ### joined lists -/
theorem join_two (x y : List UInt8) (r : List (List UInt8)) (c : UInt8) : Lib.join (x :: y :: r) [c] = x ++ c :: Lib.join (y :: r) [c] := by
 rw [Lib.join_cons, Lib.join_cons]
 simp [Lib.joinTail]
theorem join_one (x : List UInt8) (c : UInt8) : Lib.join [x] [c] = x := by
 rw [Lib.join_cons]; simp [Lib.joinTail]
theorem join_mem {c d : UInt8} {xs : List (List UInt8)} (h : d ∈ Lib.join xs [c]) : d = c ∨ ∃ x ∈ xs, d ∈ x := by
  induction xs with
  | nil => simp [Lib.join, List.intercalate] at h
  | cons x r ih =>
    cases r with
    | nil => rw [join_one] at h; exact .inr ⟨x, List.mem_cons_self, h⟩
    | cons y r =>
      rw [join_two, List.mem_append, List.mem_cons] at h
      rcases h with h | h | h
      · exact .inr ⟨x, List.mem_cons_self, h⟩
      · exact .inl h
      · rcases ih h with h | ⟨z, hz, hd⟩
        · exact .inl h
        · exact .inr ⟨z, List.mem_cons_of_mem _ hz, hd⟩
theorem join_inj {c : UInt8} : ∀ {xs ys : List (List UInt8)}, xs ≠ [] → ys ≠ [] → (∀ x ∈ xs, c ∉ x) → (∀ y ∈ ys, c ∉ y) → Lib.join xs [c] = Lib.join ys [c] → xs = ys
 | [], _, h, _, _, _, _ => absurd rfl h
 | _, [], _, h, _, _, _ => absurd rfl h
 | [x], [y], _, _, _, _, h => by rw [join_one, join_one] at h; rw [h]
 | [x], y :: z :: r, _, _, hx, hy, h => by
  rw [join_one, join_two] at h
  exact absurd (h ▸ List.mem_append_right _ List.mem_cons_self) (hx x List.mem_cons_self)
 | x :: z :: r, [y], _, _, hx, hy, h => by
  rw [join_one, join_two] at h
  exact absurd (h ▸ List.mem_append_right _ List.mem_cons_self) (hy y List.mem_cons_self)
 | x :: z :: r, y :: u :: s, _, _, hx, hy, h => by
  rw [join_two, join_two] at h
  obtain ⟨h1, h2⟩ := split_at (hx x List.mem_cons_self) (hy y List.mem_cons_self) h
  rw [h1, join_inj (by simp) (by simp) (fun a ha => hx a (List.mem_cons_of_mem _ ha)) (fun a ha => hy a (List.mem_cons_of_mem _ ha)) h2]
end Go.Proofs.YthfhhkanpnemcaaGreatDoor
namespace Go.Proofs.YthfhhkanpnemcaaGreatDoor
open Go.SL Go.RowKit
set_option linter.unusedVariables false
set_option maxRecDepth 100000
set_option linter.unusedSimpArgs false

/-! ### runes -/
theorem conts_at {s : List UInt8} {n j : Nat} (h : conts s n = true) (hj : 1 ≤ j) (hn : j < n) : (s.getD j 0).toNat / 64 = 2 := by
 unfold conts at h
 rw [List.all_eq_true] at h
 have := h j (List.mem_range.2 hn)
 simp only [Bool.or_eq_true, decide_eq_true_eq] at this
 omega
theorem szN_one {c : Nat} (h : szN c = 1) : c ≤ 127 := by
 unfold szN at h
 split at h
 ·
  assumption
 ·
  split at h
  ·
   omega
  ·
   split at h
   ·
    omega
   ·
    split at h <;> omega
theorem szN_many {c : Nat} (h : 2 ≤ szN c) : 128 ≤ c := by
 unfold szN at h
 split at h
 ·
  omega
 ·
  omega
theorem firstM_bytes {s : List UInt8} {r : Int} {n : Nat} (h : firstM s = some (r, n)) (hc : ctl r = false) : ∀ j, j < n → 32 ≤ (s.getD j 0).toNat ∧ (s.getD j 0).toNat ≠ 127 := by
 unfold firstM at h
 simp only at h
 split at h
 ·
  cases h
 ·
  rename_i hn
  split at h
  ·
   rename_i hcw
   simp only [Option.some.injEq, Prod.mk.injEq] at h
   obtain ⟨hr, hn2⟩ := h
   simp only [Bool.and_eq_true] at hcw
   intro j hj
   rw [hn2] at hcw hr
   by_cases h1 : n = 1
   ·
    subst h1
    obtain rfl : j = 0 := by omega
    have h127 := szN_one hn2
    have hrv : rv 1 s 1 = (s.getD 0 0).toNat := by
     show (s.getD 0 0 &&& 127).toNat = _
     rw [UInt8.toNat_and]
     exact (Nat.and_two_pow_sub_one_eq_mod _ 7).trans (Nat.mod_eq_of_lt (by omega))
    rw [hrv] at hr
    subst hr
    simp only [ctl, Bool.or_eq_false_iff, Bool.and_eq_false_iff, decide_eq_false_iff_not] at hc
    omega
   ·
    by_cases h0 : j = 0
    ·
     subst h0
     have := szN_many (c := (s.getD 0 0).toNat) (by omega)
     omega
    ·
     have := conts_at hcw.1 (show 1 ≤ j by omega) hj
     omega
  ·
   cases h
theorem valF_bytes : ∀ (k : Nat) (s : List UInt8) (a : Nat), valF k s = true → ((runesF k s a).all fun p => !ctl p.2) = true → ∀ c ∈ s, 32 ≤ c.toNat ∧ c.toNat ≠ 127
  | k, [], a, _, _, c, hc => by cases hc
  | 0, x :: t, a, h, _, c, hc => by cases h
  | k + 1, x :: t, a, h, hr, c, hc => by
    cases hf : firstM (x :: t) with
    | none => rw [valF, hf] at h; cases h
    | some p =>
      obtain ⟨r, n⟩ := p
      rw [valF, hf] at h
      rw [runesF, hf] at hr
      simp only [List.all_cons, Bool.and_eq_true, Bool.not_eq_true'] at hr
      have hb := firstM_bytes hf hr.1
      have hn := firstM_n hf
      obtain ⟨j, hj, rfl⟩ := List.getElem_of_mem hc
      by_cases hjn : j < n
      · have := hb j hjn
        rw [show (x :: t).getD j 0 = (x :: t)[j] by simp [List.getD, List.getElem?_eq_getElem hj]] at this
        exact this
      · refine valF_bytes k _ (a + n) h hr.2 _ ?_
        rw [List.mem_iff_getElem]
        refine ⟨j - n, by rw [List.length_drop]; omega, ?_⟩
        rw [List.getElem_drop]
        congr 1
        omega
theorem prn_bytes {s : List UInt8} (h : prn s = true) : ∀ c ∈ s, 32 ≤ c.toNat ∧ c.toNat ≠ 127 := by
 simp only [prn, Bool.and_eq_true] at h
 exact valF_bytes s.length s 0 h.1 h.2
theorem prn_nl {s : List UInt8} (h : prn s = true) : (10 : UInt8) ∉ s := fun hc => by
 have := (prn_bytes h 10 hc).1
 exact absurd this (by decide)

/-! ### what no rune is -/
theorem idx_none {p : Nat → Bool} (hp : ∀ x, 128 ≤ x → p x = true) {s : List UInt8} : ∀ (f pos : Nat), s.length - pos ≤ f → Lib.idxFuncFrom p true ⟨s.toArray⟩ f pos = -1 → ∀ j, pos ≤ j → (hj : j < s.length) → s[j].toNat < 128 ∧ p s[j].toNat = false
 | 0, pos, hf, _, j, hpj, hj => by omega
 | f + 1, pos, hf, h, j, hpj, hj => by
  have hsz : (⟨s.toArray⟩ : ByteArray).size = s.length := str_size s
  have hpos : pos < (⟨s.toArray⟩ : ByteArray).size := by omega
  have hget : ((⟨s.toArray⟩ : ByteArray)[pos]'hpos) = s[pos]'(by omega) := rfl
  unfold Lib.idxFuncFrom at h
  rw [if_pos hpos] at h
  split at h
  ·
   omega
  ·
   rename_i hnp
   by_cases hlo : (s[pos]'(by omega)).toNat < 128
   ·
    have hd := decode_ascii ⟨s.toArray⟩ pos hpos (by rw [hget]; exact hlo)
    rw [hd, hget] at h hnp
    by_cases hjp : j = pos
    ·
     subst hjp
     exact ⟨hlo, by simpa using hnp⟩
    ·
     exact idx_none hp f (pos + 1) (by omega) h j (by omega) hj
   ·
    have hd := decode_high ⟨s.toArray⟩ pos hpos (by rw [hget]; omega)
    exact absurd (hp _ hd.1) hnp
theorem idxFunc_none {p : Nat → Bool} (hp : ∀ x, 128 ≤ x → p x = true) {s : List UInt8} (h : decide (0 ≤ Lib.idxFunc p true ⟨s.toArray⟩) = false) : ∀ c ∈ s, c.toNat < 128 ∧ p c.toNat = false := by
 have h1 : Lib.idxFuncFrom p true ⟨s.toArray⟩ s.length 0 = -1 := by
  have hr := Lib.idxFunc_range p true ⟨s.toArray⟩
  have h2 := of_decide_eq_false h
  have e : Lib.idxFunc p true ⟨s.toArray⟩ = Lib.idxFuncFrom p true ⟨s.toArray⟩ s.length 0 := by unfold Lib.idxFunc; rw [str_size]
  rw [← e]
  omega
 intro c hc
 obtain ⟨j, hj, rfl⟩ := List.getElem_of_mem hc
 exact idx_none hp s.length 0 (by omega) h1 j (Nat.zero_le _) hj
theorem perm_high (x : Nat) (h : 128 ≤ x) : (!perm (x : Int)) = true := by simp [perm]; omega
theorem dchr_high (x : Nat) (h : 128 ≤ x) : (!dchr (x : Int)) = true := by simp [dchr]; omega
theorem comp_bytes {s : List UInt8} (h : compM s = true) : ∀ c ∈ s, perm (c.toNat : Int) = true := by
 simp only [compM, Bool.and_eq_true, noBad, Bool.not_eq_true'] at h
 intro c hc
 have := (idxFunc_none perm_high h.2 c hc).2
 simpa using this
theorem dist_bytes {s : List UInt8} (h : distB s = true) : ∀ c ∈ s, dchr (c.toNat : Int) = true := by
 simp only [distB, Bool.not_eq_true'] at h
 intro c hc
 have := (idxFunc_none dchr_high h c hc).2
 simpa using this
theorem dist_nl {s : List UInt8} (h : distB s = true) : (10 : UInt8) ∉ s := fun hc => absurd (dist_bytes h 10 hc) (by decide)

/-! ### pieces -/
theorem idx_at {s : List UInt8} {d : UInt8} {i : Nat} (h : Lib.index s [d] = i) : s[i]? = some d := by
 rcases Lib.index_spec s [d] with ⟨h1, _⟩ | ⟨j, h1, _, h2, _⟩
 ·
  omega
 ·
  have hij : j = i := by omega
  subst hij
  unfold Lib.occAt at h2
  have e : s[j]? = (s.drop j)[0]? := by simp
  rw [e]
  cases hd : s.drop j with
  | nil => rw [hd] at h2; simp at h2
  | cons x r => rw [hd] at h2; simp at h2; simp [h2]
theorem mem_cut {s : List UInt8} {d : UInt8} (h : 0 ≤ Lib.index s [d]) {c : UInt8} (hc : c ∈ s) : c = d ∨ c ∈ s.take (Lib.index s [d]).toNat ∨ c ∈ s.drop ((Lib.index s [d]).toNat + 1) := by
 obtain ⟨i, hi⟩ : ∃ i : Nat, Lib.index s [d] = i := ⟨(Lib.index s [d]).toNat, by omega⟩
 have hat := idx_at hi
 rw [hi, Int.toNat_natCast]
 obtain ⟨j, hj, rfl⟩ := List.getElem_of_mem hc
 have hil := (List.getElem?_eq_some_iff.1 hat).1
 rcases Nat.lt_trichotomy j i with hji | rfl | hji
 ·
  exact .inr (.inl (List.mem_take_iff_getElem.2 ⟨j, by omega, rfl⟩))
 ·
  left; exact (List.getElem?_eq_some_iff.1 hat).2
 ·
  refine .inr (.inr ?_)
  rw [List.mem_iff_getElem]
  exact ⟨j - (i + 1), by rw [List.length_drop]; omega, by rw [List.getElem_drop]; congr 1; omega⟩
theorem splitK_mem {d c : UInt8} : ∀ (k : Nat) (s : List UInt8), c ∈ s → c = d ∨ ∃ x ∈ Lib.splitK [d] 0 k s, c ∈ x
 | 0, s, hc => .inr ⟨s, by simp [Lib.splitK], hc⟩
 | k + 1, s, hc => by
  rw [Lib.splitK]
  by_cases h : Lib.index s [d] = -1
  ·
   rw [if_pos (by simpa using h)]
   exact .inr ⟨s, by simp, hc⟩
  ·
   rw [if_neg (by simpa using h)]
   have h0 : 0 ≤ Lib.index s [d] := by
    rcases Lib.index_spec s [d] with ⟨h1, _⟩ | ⟨j, h1, _⟩
    ·
     exact absurd h1 h
    ·
     omega
   rcases mem_cut h0 hc with h1 | h1 | h1
   ·
    exact .inl h1
   ·
    exact .inr ⟨_, List.mem_cons_self, by simpa using h1⟩
   ·
    rcases splitK_mem k _ h1 with h2 | ⟨x, hx, hcx⟩
    ·
     exact .inl h2
    ·
     exact .inr ⟨x, List.mem_cons_of_mem _ hx, hcx⟩
theorem comF_mem {c : UInt8} : ∀ (k : Nat) (s : List UInt8), c ∈ s → c = 44 ∨ ∃ x ∈ comF k s, c ∈ x
 | 0, s, hc => .inr ⟨s, by simp [comF], hc⟩
 | k + 1, s, hc => by
  rw [comF]
  by_cases h : 0 ≤ Lib.index s [44]
  ·
   rw [if_pos h]
   rcases mem_cut h hc with h1 | h1 | h1
   ·
    exact .inl h1
   ·
    exact .inr ⟨_, List.mem_cons_self, h1⟩
   ·
    rcases comF_mem k _ h1 with h2 | ⟨x, hx, hcx⟩
    ·
     exact .inl h2
    ·
     exact .inr ⟨x, List.mem_cons_of_mem _ hx, hcx⟩
  ·
   rw [if_neg h]
   exact .inr ⟨s, by simp, hc⟩
theorem gparts_eq (s : List UInt8) : gparts s = Lib.splitK [46] 0 (Lib.countB ⟨s.toArray⟩ ⟨#[46]⟩) s := by
 rw [gparts, Lib.splitB_data]
theorem name_bytes {s : List UInt8} (h : gnErr s = 0) : ∀ c ∈ s, c = 46 ∨ perm (c.toNat : Int) = true := by
 intro c hc
 have hp : ((gparts s).any fun x => !compM x) = false := by
  unfold gnErr at h
  split at h
  ·
   cases h
  ·
   split at h
   ·
    cases h
   ·
    rename_i hh; simpa using hh
 rw [gparts_eq] at hp
 rcases splitK_mem (d := 46) (Lib.countB ⟨s.toArray⟩ ⟨#[46]⟩) s hc with h1 | ⟨x, hx, hcx⟩
 ·
  exact .inl h1
 ·
  right
  have := List.any_eq_false.1 hp x hx
  exact comp_bytes (by simpa using this) c hcx
theorem name_no {s : List UInt8} (h : gnErr s = 0) : (10 : UInt8) ∉ s ∧ (44 : UInt8) ∉ s := by
 constructor
 ·
  intro hc
  rcases name_bytes h 10 hc with h1 | h1
  ·
   exact absurd h1 (by decide)
  ·
   exact absurd h1 (by decide)
 ·
  intro hc
  rcases name_bytes h 44 hc with h1 | h1
  ·
   exact absurd h1 (by decide)
  ·
   exact absurd h1 (by decide)
theorem lsErr_all : ∀ (seen xs : List (List UInt8)), lsErr seen xs = 0 → ∀ x ∈ xs, gnErr x = 0
 | _, [], _, x, hx => by cases hx
 | seen, y :: t, h, x, hx => by
  rw [lsErr] at h
  split at h
  ·
   rename_i hn; exact absurd h hn
  ·
   rename_i hy
   split at h
   ·
    cases h
   ·
    rcases List.mem_cons.1 hx with rfl | hx
    ·
     simpa using hy
    ·
     exact lsErr_all _ t h x hx
theorem fmt_all {xs : List (List UInt8)} (h : fmtErr xs = 0) : xs ≠ [] ∧ ∀ x ∈ xs, gnErr x = 0 := by
 unfold fmtErr listErr at h
 split at h
 ·
  cases h
 ·
  rename_i hne
  split at h
  ·
   cases h
  ·
   exact ⟨hne, lsErr_all [] xs h⟩
end Go.Proofs.YthfhhkanpnemcaaGreatDoor
namespace Go.Proofs.YthfhhkanpnemcaaGreatDoor
open Go.SL Go.RowKit
set_option linter.unusedVariables false
set_option maxRecDepth 100000
set_option linter.unusedSimpArgs false

theorem HX_no : (10 : UInt8) ∉ HX := by decide
theorem digM_no {c : UInt8} (h : 0 ≤ digM c) : c ≠ 10 := fun e => by subst e; exact absurd h (by decide)
theorem mem_getD {s : List UInt8} {c : UInt8} (h : c ∈ s) : ∃ j, j < s.length ∧ s.getD j 0 = c := by
 obtain ⟨j, hj, rfl⟩ := List.getElem_of_mem h
 exact ⟨j, hj, by simp [List.getD, hj]⟩
theorem mid_no {w : List UInt8} (h : midE w = 0) : (10 : UInt8) ∉ w := fun hc => by
 obtain ⟨j, hj, he⟩ := mem_getD hc
 unfold midE at h
 split at h
 ·
  cases h
 ·
  rename_i hok
  split at h
  ·
   cases h
  ·
   split at h
   ·
    cases h
   ·
    have h71 : w.length = 71 := by omega
    have hok' : midOk w 71 = true := by rw [h71] at hok; simpa using hok
    have := midOk_at w (i := j) (j := 71) (by omega) hok'
    rw [he] at this
    unfold midC at this
    split at this
    ·
     exact absurd (of_decide_eq_true this) (by decide)
    ·
     have hz := of_decide_eq_true this
     have : ∀ k, k < 71 → (10 : UInt8) ≠ ZF.getD k 0 := by decide
     exact this j (by omega) hz
theorem auE_no {w : List UInt8} (h : auE w = 0) : (10 : UInt8) ∉ w := fun hc => by
 unfold auE at h
 split at h
 ·
  cases h
 ·
  rename_i hb
  split at h
  ·
   cases h
  ·
   split at h
   ·
    cases h
   ·
    have h32 : w.length = 32 := by omega
    unfold auBad at hb
    rw [List.take_of_length_le (by omega)] at hb
    apply hb
    rw [List.any_eq_true]
    exact ⟨10, hc, by decide⟩
theorem numF_dig (w : List UInt8) : ∀ i, (numF w i).1 = true → ∀ j, j < i → isDig (w.getD j 0) = true
 | 0, _, j, hj => by omega
 | i + 1, h, j, hj => by
  unfold numF at h
  split at h
  ·
   rename_i hh
   simp only [Bool.and_eq_true] at hh
   by_cases e : j = i
   ·
    rw [e]; exact hh.2
   ·
    exact numF_dig w i hh.1 j (by omega)
  ·
   cases h
theorem num_no {w : List UInt8} (h : numE w = true) : (10 : UInt8) ∉ w := fun hc => by
 obtain ⟨j, hj, he⟩ := mem_getD hc
 have := numF_dig w w.length h j hj
 rw [he] at this
 exact absurd this (by decide)
theorem tx_no {w : List UInt8} (h : txE w = 0) : (10 : UInt8) ∉ w := fun hc => by
 unfold txE at h
 split at h
 ·
  cases h
 ·
  split at h
  ·
   cases h
  ·
   rename_i hb
   apply hb
   rw [List.any_eq_true]
   exact ⟨10, hc, by decide⟩
theorem dval_no {c : UInt8} {x : Nat} (h : dval c = some x) : c ≠ 10 := fun e => by
 subst e
 have hn : dval 10 = none := by decide
 rw [hn] at h
 cases h
theorem decL_no (s : List UInt8) : ∀ (r : List UInt8) (i : Nat) (st st' : DS), r = s.drop i → i ≤ s.length → decL s r i st = some st' → (10 : UInt8) ∉ r
  | [], _, _, _, _, _, _ => by simp
  | c :: r, i, st, st', hr, hi, h => by
    have hil : i < s.length := by
      have := congrArg List.length hr
      simp at this; omega
    have hr' : r = s.drop (i + 1) := by
      rw [List.drop_eq_getElem_cons hil] at hr
      simp only [List.cons.injEq] at hr
      exact hr.2
    cases hd : dval c with
    | some x =>
      rw [decL_some hd] at h
      have := decL_no s r (i + 1) _ st' hr' hil h
      simp only [List.mem_cons, not_or]
      exact ⟨fun e => dval_no hd e.symm, this⟩
    | none =>
      rw [decL_none hd] at h
      split at h
      · rename_i hh
        obtain ⟨rfl, hp⟩ := hh
        simp only [inPl, Bool.and_eq_true, Bool.or_eq_true, decide_eq_true_eq] at hp
        simp only [List.mem_cons, not_or]
        refine ⟨by decide, ?_⟩
        rcases hp.2 with h1 | ⟨h1, h2⟩
        · have : r = [] := by rw [hr']; exact List.drop_of_length_le (by omega)
          rw [this]; simp
        · have hlt : i + 1 < s.length := by omega
          have e : r = [s.getD (s.length - 1) 0] := by
            rw [hr', List.drop_eq_getElem_cons hlt, List.drop_of_length_le (by omega)]
            have : s.length - 1 = i + 1 := by omega
            rw [this]
            simp [List.getD, hlt]
          rw [e, h2]
          decide
      · cases h
theorem pub_no {w : List UInt8} (h : pubE w = 0) : (10 : UInt8) ∉ w := by
 unfold pubE at h
 split at h
 ·
  rename_i hn; exact absurd h hn
 ·
  rename_i hd
  have hd0 : decE w = 0 := by simpa using hd
  unfold decE at hd0
  cases hl : decL w w 0 ds0 with
  | none => rw [hl] at hd0; cases hd0
  | some st => exact decL_no w w 0 _ _ (by simp) (Nat.zero_le _) hl

theorem wantM_ok {r : Rd} {ok : Bool} {e : Int} (he : ok = false → e ≠ 0) (h : (wantM r ok e).e = 0) : r.e = 0 ∧ ok = true := by
 unfold wantM at h
 cases ok with
 | true => exact ⟨h, rfl⟩
 | false =>
  simp only [Bool.false_eq_true, if_false, failM] at h
  split at h
  ·
   exact absurd h (he O)
  ·
   rename_i hn; exact absurd h hn
theorem failM_ok {r : Rd} {a e : Int} (he : e ≠ 0) : (failM r a e).e ≠ 0 := by
 unfold failM
 split
 ·
  exact he
 ·
  assumption
/-- what is read so far has no line feed -/
def Cl (s : List UInt8) (r : Rd) : Prop := (10 : UInt8) ∉ s.take (if r.at_ < 0 then s.length else r.at_.toNat)
theorem wordR_ok {s : List UInt8} {r : Rd} (h : (wordR s r).e = 0) : r.e = 0 ∧ 0 ≤ r.at_ ∧ wordW s r = (wordC s r).1 ∧ wordR s r = ⟨nextAt s r, r.at_, r.bad, r.e⟩ := by
 unfold wordR at h ⊢
 unfold wordW
 split at h
 ·
  rename_i hn; exact absurd h hn
 ·
  rename_i he
  split at h
  ·
   exact absurd h (failM_ok (by decide))
  ·
   rename_i ha
   rw [if_neg he, if_neg ha, if_neg he, if_neg ha]
   exact ⟨by simpa using he, by omega, rfl, rfl⟩
theorem word_cl {s : List UInt8} {r : Rd} (hr : r.at_ ≤ s.length) (h : (wordR s r).e = 0) (hc : Cl s r) (hw : (10 : UInt8) ∉ wordW s r) : Cl s (wordR s r) := by
 obtain ⟨he, ha, hW, hR⟩ := wordR_ok h
 obtain ⟨a, ea⟩ : ∃ a : Nat, r.at_ = a := ⟨r.at_.toNat, by omega⟩
 have hal : a ≤ s.length := by omega
 rw [hR]
 unfold Cl at hc ⊢
 rw [if_neg (by omega), ea, Int.toNat_natCast] at hc
 show (10 : UInt8) ∉ s.take (if nextAt s r < 0 then s.length else (nextAt s r).toNat)
 rw [hW] at hw
 unfold nextAt
 unfold wordC at hw ⊢
 rw [ea, Int.toNat_natCast] at hw ⊢
 unfold Lib.cut at hw ⊢
 by_cases hi : 0 ≤ Lib.index (s.drop a) [32]
 ·
  rw [if_pos hi] at hw ⊢
  obtain ⟨i, ei⟩ : ∃ i : Nat, Lib.index (s.drop a) [32] = i := ⟨(Lib.index (s.drop a) [32]).toNat, by omega⟩
  have hat := idx_at ei
  have hil := (List.getElem?_eq_some_iff.1 hat).1
  rw [List.length_drop] at hil
  simp only [ei, Int.toNat_natCast, if_true] at hw ⊢
  have hlen : ((s.drop a).take i).length = i := by simp; omega
  rw [hlen, if_neg (by omega), show ((a : Int) + ((i : Int) + 1)).toNat = a + i + 1 by omega]
  have e : s.take (a + i + 1) = s.take a ++ (s.drop a).take i ++ [32] := by
   have h1 : s.take (a + i + 1) = s.take a ++ (s.drop a).take (i + 1) := by rw [Nat.add_assoc, List.take_add]
   rw [h1, List.append_assoc]
   congr 1
   have hg := (List.getElem?_eq_some_iff.1 hat).2
   rw [List.take_succ_eq_append_getElem (by rw [List.length_drop]; omega), hg]
  rw [e]
  simp only [List.mem_append, List.mem_singleton, not_or]
  exact ⟨⟨hc, hw⟩, by decide⟩
 ·
  rw [if_neg hi] at hw ⊢
  simp only [Bool.false_eq_true, if_false]
  rw [if_pos (by decide), List.take_length]
  rw [← List.take_append_drop a s]
  simp only [List.mem_append, not_or]
  exact ⟨hc, hw⟩
theorem wantM_cl {s : List UInt8} {r : Rd} {ok : Bool} {e : Int} (h : Cl s r) : Cl s (wantM r ok e) := by
 unfold Cl at h ⊢
 rw [wantM_at]
 exact h

theorem targ_cl {s : List UInt8} {r : Rd} (hr : r.at_ ≤ s.length) (h : (targR s r).e = 0) (hc : r.e = 0 → Cl s r) : Cl s (targR s r) := by
 unfold targR at h ⊢
 obtain ⟨h1, _⟩ := wantM_ok (fun _ => by decide) h
 obtain ⟨h2, h3⟩ := wantM_ok (fun _ => by decide) h1
 exact wantM_cl (wantM_cl (word_cl hr h2 (hc (wordR_ok h2).1) (mid_no (by simpa using h3))))
theorem targ_e {s : List UInt8} {r : Rd} (h : (targR s r).e = 0) : r.e = 0 := by
 unfold targR at h
 exact (wordR_ok (wantM_ok (fun _ => by decide) (wantM_ok (fun _ => by decide) h).1).1).1
theorem grp_cl {s : List UInt8} {r : Rd} (hr : r.at_ ≤ s.length) (h : (grpR s r).e = 0) (hc : r.e = 0 → Cl s r) : Cl s (grpR s r) := by
 unfold grpR at h ⊢
 obtain ⟨h2, h3⟩ := wantM_ok (fun _ => by decide) h
 exact wantM_cl (word_cl hr h2 (hc (wordR_ok h2).1) (name_no (by simpa using h3)).1)
theorem num_cl {s : List UInt8} {r : Rd} {lo hi : Int} (hr : r.at_ ≤ s.length) (h : (numR s r lo hi).e = 0) (hc : r.e = 0 → Cl s r) : Cl s (numR s r lo hi) := by
 unfold numR at h ⊢
 obtain ⟨h1, _⟩ := wantM_ok (fun _ => by decide) h
 obtain ⟨h2, h3⟩ := wantM_ok (fun _ => by decide) h1
 exact wantM_cl (wantM_cl (word_cl hr h2 (hc (wordR_ok h2).1) (num_no h3)))
theorem modsR_ok : ∀ {r : Rd} {ps : List (List UInt8)}, (modsR r ps).e = 0 → r.e = 0 ∧ ∀ p ∈ ps, auE p = 0
 | r, [], h => ⟨h, by simp⟩
 | r, p :: t, h => by
  obtain ⟨h1, h2⟩ := modsR_ok (r := wantM r (auE p == 0) 3) (ps := t) h
  obtain ⟨h3, h4⟩ := wantM_ok (fun _ => by decide) h1
  refine ⟨h3, fun q hq => ?_⟩
  rcases List.mem_cons.1 hq with rfl | hq
  ·
   simpa using h4
  ·
   exact h2 q hq
theorem mod_cl {s : List UInt8} {r : Rd} (hr : r.at_ ≤ s.length) (h : (modR s r).e = 0) (hc : r.e = 0 → Cl s r) : Cl s (modR s r) := by
 unfold modR at h ⊢
 obtain ⟨h1, _⟩ := wantM_ok (fun hb => by simpa using hb) h
 obtain ⟨h2, h3⟩ := modsR_ok h1
 have hw : (10 : UInt8) ∉ wordW s r := fun hm => by
  rcases comF_mem (wordW s r).length _ hm with h4 | ⟨x, hx, hcx⟩
  ·
   exact absurd h4 (by decide)
  ·
   exact auE_no (h3 x hx) hcx
 have := word_cl hr h2 (hc (wordR_ok h2).1) hw
 apply wantM_cl
 unfold Cl at this ⊢
 rw [modsR_at]
 exact this
theorem mode_cl {s : List UInt8} {r : Rd} (hr : r.at_ ≤ s.length) (h : (modeR s r).e = 0) (hc : r.e = 0 → Cl s r) : Cl s (modeR s r) := by
 unfold modeR at h ⊢
 split at h
 ·
  rename_i hw
  rw [if_pos hw]
  exact word_cl hr h (hc (wordR_ok h).1) (by rw [hw]; decide)
 ·
  rename_i hw
  split at h
  ·
   rename_i hw2
   rw [if_neg hw, if_pos hw2]
   exact mod_cl (wordR_at hr) h fun h1 => word_cl hr h1 (hc (wordR_ok h1).1) (by rw [hw2]; decide)
  ·
   exact absurd (wantM_ok (fun _ => by decide) h).2 (by decide)
theorem txt_cl {s : List UInt8} {r : Rd} (ha : 0 ≤ r.at_) (h : (txtR s r).e = 0) (hc : Cl s r) : Cl s (txtR s r) := by
 have hat := txtR_at (s := s) (r := r)
 unfold txtR at h
 obtain ⟨_, h2⟩ := wantM_ok (fun hb => by simpa using hb) h
 have ht := tx_no (w := s.drop r.at_.toNat) (by simpa using h2)
 unfold Cl at hc ⊢
 rw [hat, if_pos (by decide), List.take_length]
 rw [if_neg (by omega)] at hc
 rw [← List.take_append_drop r.at_.toNat s]
 simp only [List.mem_append, not_or]
 exact ⟨hc, ht⟩
theorem def_cl {s : List UInt8} {r : Rd} (hr : r.at_ ≤ s.length) (h : (defR s r).e = 0) (hc : r.e = 0 → Cl s r) : Cl s (defR s r) := by
 have hm : (modeR s (numR s (grpR s r) 0 1000000)).e = 0 → Cl s (modeR s (numR s (grpR s r) 0 1000000)) := fun h0 => mode_cl (numR_at (grpR_at hr)) h0 fun h1 => num_cl (grpR_at hr) h1 fun h2 => grp_cl hr h2 hc
 unfold defR at h ⊢
 split at h
 ·
  rename_i hh
  rw [if_pos hh]
  exact hm h
 ·
  rename_i hh
  rw [if_neg hh]
  have ha : ¬ (modeR s (numR s (grpR s r) 0 1000000)).at_ < 0 := fun k => hh (.inr k)
  have he : (modeR s (numR s (grpR s r) 0 1000000)).e = 0 := by
   by_cases k : (modeR s (numR s (grpR s r) 0 1000000)).e = 0
   ·
    exact k
   ·
    exact absurd (.inl k) hh
  exact txt_cl (by omega) h (hm he)
theorem rek_cl {s : List UInt8} {r : Rd} (hr : r.at_ ≤ s.length) (h : (rekR s r).e = 0) (hc : r.e = 0 → Cl s r) : Cl s (rekR s r) := by
 unfold rekR at h ⊢
 obtain ⟨h2, h3⟩ := wantM_ok (fun hb => by simpa using hb) h
 exact wantM_cl (word_cl (numR_at hr) h2 (num_cl hr (wordR_ok h2).1 hc) (pub_no (by simpa using h3)))
theorem pk_cl {s : List UInt8} {r : Rd} {f : Nat} (hr : r.at_ ≤ s.length) (h : (pkR s r f).e = 0) (hc : r.e = 0 → Cl s r) : Cl s (pkR s r f) := by
 unfold pkR at h ⊢
 split at h
 ·
  rename_i h1; rw [if_pos h1]; exact targ_cl hr h hc
 ·
  rename_i h1
  rw [if_neg h1]
  split at h
  ·
   rename_i h2; rw [if_pos h2]; exact grp_cl (targR_at hr) h (fun h0 => targ_cl hr h0 hc)
  ·
   rename_i h2
   rw [if_neg h2]
   split at h
   ·
    rename_i h3; rw [if_pos h3]; exact def_cl hr h hc
   ·
    rename_i h3
    rw [if_neg h3]
    split at h
    ·
     rename_i h4; rw [if_pos h4]; exact num_cl (grpR_at hr) h (fun h0 => grp_cl hr h0 hc)
    ·
     rename_i h4; rw [if_neg h4]; exact rek_cl hr h hc
theorem pkv_no : ∀ p ∈ pkv, (10 : UInt8) ∉ p.1 := by decide
theorem ctl_no {s : List UInt8} (h : ctlE s = 0) : (10 : UInt8) ∉ s := by
  unfold ctlE at h
  split at h
  · cases h
  · cases hf : findM pkv (wordW s rd0) 0 with
    | none => rw [hf] at h; cases h
    | some p =>
      rw [hf] at h
      have hw : (10 : UInt8) ∉ wordW s rd0 := pkv_no _ (findM_mem _ _ _ _ hf)
      have h0 : (rd0.at_ : Int) ≤ s.length := by show (0 : Int) ≤ _; omega
      have hcl0 : Cl s rd0 := by unfold Cl; simp
      simp only at h
      unfold finR at h
      split at h
      · exact absurd h (failM_ok (by decide))
      · rename_i hn
        have hat : (pkR s (wordR s rd0) p.2).at_ < 0 := by
          have := fun k => hn ⟨h, k⟩
          omega
        have := pk_cl (wordR_at h0) h (fun h1 => word_cl h0 h1 hcl0 hw)
        unfold Cl at this
        rw [if_pos hat, List.take_length] at this
        exact this
end Go.Proofs.YthfhhkanpnemcaaGreatDoor
namespace Go.Proofs.YthfhhkanpnemcaaGreatDoor
open Go.SL Go.RowKit
set_option linter.unusedVariables false
set_option maxRecDepth 100000
set_option linter.unusedSimpArgs false

theorem dval_a64 : ∀ v, v < 64 → dval (a64 v) = some v := by decide
def dl : List UInt8 → Nat → DS → DS
 | [], _, st => st
 | c :: r, i, st => dl r (i + 1) (dstep st ((dval c).getD 0) i)
def inA (o : List UInt8) : Prop := ∀ c ∈ o, ∃ v, v < 64 ∧ c = a64 v
theorem decL_app (s : List UInt8) : ∀ (o rest : List UInt8) (i : Nat) (st : DS), inA o → decL s (o ++ rest) i st = decL s rest (i + o.length) (dl o i st)
 | [], rest, i, st, _ => rfl
 | c :: r, rest, i, st, h => by
  obtain ⟨v, hv, rfl⟩ := h _ List.mem_cons_self
  have hd := dval_a64 v hv
  rw [List.cons_append, decL_some hd, decL_app s r rest (i + 1) _ (fun x hx => h x (List.mem_cons_of_mem _ hx)), dl, hd]
  simp only [Option.getD_some, List.length_cons]
  congr 1
  omega
theorem dl_snoc : ∀ (o : List UInt8) (v i : Nat) (st : DS), v < 64 → dl (o ++ [a64 v]) i st = dstep (dl o i st) v (i + o.length)
 | [], v, i, st, hv => by simp only [List.nil_append, dl, dval_a64 v hv, Option.getD_some]; rfl
 | c :: r, v, i, st, hv => by
  simp only [List.cons_append, dl, List.length_cons]
  rw [dl_snoc r v (i + 1) _ hv]
  congr 1
  omega
theorem inA_snoc {o : List UInt8} {v : Nat} (h : inA o) (hv : v < 64) : inA (o ++ [a64 v]) := by
 intro c hc
 rw [List.mem_append, List.mem_singleton] at hc
 rcases hc with hc | rfl
 ·
  exact h c hc
 ·
  exact ⟨v, hv, rfl⟩

/-- the writer and the reader, k bytes further -/
def enc3 (x : List UInt8) (k : Nat) : Prop :=
 inA (bys x k).o ∧
 (((bys x k).h = 0 ∧ (bys x k).v = 0 ∧ (dl (bys x k).o 0 ds0).h = 0 ∧ (dl (bys x k).o 0 ds0).v = 0 ∧ (dl (bys x k).o 0 ds0).o = x.take k ∧ (bys x k).o.length % 4 = 0) ∨
  (∃ y c, (bys x k).h = 2 ∧ (dl (bys x k).o 0 ds0).h = 6 ∧ (bys x k).v < 4 ∧ (dl (bys x k).o 0 ds0).v < 64 ∧ x.take k = y ++ [c] ∧ (dl (bys x k).o 0 ds0).o = y ∧ c.toNat = (dl (bys x k).o 0 ds0).v * 4 + (bys x k).v ∧ (bys x k).o.length % 4 = 1) ∨
  (∃ y c, (bys x k).h = 4 ∧ (dl (bys x k).o 0 ds0).h = 4 ∧ (bys x k).v < 16 ∧ (dl (bys x k).o 0 ds0).v < 16 ∧ x.take k = y ++ [c] ∧ (dl (bys x k).o 0 ds0).o = y ∧ c.toNat = (dl (bys x k).o 0 ds0).v * 16 + (bys x k).v ∧ (bys x k).o.length % 4 = 2))
theorem dstep_big {st : DS} {x i : Nat} (h : 8 ≤ st.h + 6) : dstep st x i = ⟨st.o ++ [UInt8.ofNat ((st.v * 2 ^ 6 + x) / 2 ^ (st.h - 2))], (st.v * 2 ^ 6 + x) % 2 ^ (st.h - 2), st.h - 2, i⟩ := if_pos h
theorem dstep_small {st : DS} {x i : Nat} (h : ¬ 8 ≤ st.h + 6) : dstep st x i = ⟨st.o, st.v * 2 ^ 6 + x, st.h + 6, i⟩ := if_neg h
theorem ofNat_eq {c : UInt8} {n : Nat} (h : c.toNat = n) : UInt8.ofNat n = c := by rw [← h, UInt8.ofNat_toNat]
theorem enc3_all (x : List UInt8) : ∀ k, k ≤ x.length → enc3 x k
 | 0, _ => ⟨(by intro c hc; cases hc), .inl ⟨rfl, rfl, rfl, rfl, rfl, rfl⟩⟩
 | k + 1, hk => by
  obtain ⟨hA, hcase⟩ := enc3_all x k (by omega)
  have hok := bys_ok x k
  have hb : bys x (k + 1) = byt (bys x k) (x.getD k 0) 8 := rfl
  rw [byt_prog _ _ hok] at hb
  have hx : x.take (k + 1) = x.take k ++ [x.getD k 0] := by
   rw [List.take_succ_eq_append_getElem (show k < x.length by omega)]
   simp [List.getD, show k < x.length by omega]
  have hc := (x.getD k 0).toNat_lt
  generalize hcv : x.getD k 0 = c at hb hx hc
  generalize hE : bys x k = E at hb hA hcase hok
  obtain ⟨o, v, h⟩ := E
  generalize hD : dl o 0 ds0 = D at hcase
  dsimp only at hA hcase hb hok
  unfold enc3
  rw [hb]
  rcases hcase with ⟨h0, v0, d0, w0, ho, hl⟩ | ⟨y, z, h2, d6, v4, w6, hy, hDo, hz, hl⟩ | ⟨y, z, h4, d4, v16, w16, hy, hDo, hz, hl⟩
  ·
   subst h0 v0
   rw [if_pos (by decide)]
   simp only [Nat.zero_mul, Nat.zero_add]
   have hq : c.toNat / 2 ^ 2 < 64 := by omega
   refine ⟨inA_snoc hA hq, .inr (.inl ⟨x.take k, c, ?_⟩)⟩
   rw [dl_snoc o _ 0 ds0 hq, hD, dstep_small (by omega)]
   refine ⟨by first | trivial | rfl, by show D.h + 6 = 6; omega, by show c.toNat % 2 ^ 2 < 4; omega, by show D.v * 2 ^ 6 + c.toNat / 2 ^ 2 < 64; omega, hx, ho, ?_, by simp; omega⟩
   show c.toNat = (D.v * 2 ^ 6 + c.toNat / 2 ^ 2) * 4 + c.toNat % 2 ^ 2
   omega
  ·
   subst h2
   rw [if_pos (by decide)]
   have hq : (v * 2 ^ 8 + c.toNat) / 2 ^ (2 + 2) < 64 := by omega
   refine ⟨inA_snoc hA hq, .inr (.inr ⟨x.take k, c, ?_⟩)⟩
   rw [dl_snoc o _ 0 ds0 hq, hD, dstep_big (by omega), d6]
   have hout : UInt8.ofNat ((D.v * 2 ^ 6 + (v * 2 ^ 8 + c.toNat) / 2 ^ (2 + 2)) / 2 ^ (6 - 2)) = z := ofNat_eq (by omega)
   refine ⟨rfl, rfl, by show (v * 2 ^ 8 + c.toNat) % 2 ^ (2 + 2) < 16; omega, by show (D.v * 2 ^ 6 + (v * 2 ^ 8 + c.toNat) / 2 ^ (2 + 2)) % 2 ^ (6 - 2) < 16; omega, hx, ?_, ?_, by simp; omega⟩
   ·
    show D.o ++ [_] = x.take k
    rw [hout, hDo, hy]
   ·
    show c.toNat = (D.v * 2 ^ 6 + (v * 2 ^ 8 + c.toNat) / 2 ^ (2 + 2)) % 2 ^ (6 - 2) * 16 + (v * 2 ^ 8 + c.toNat) % 2 ^ (2 + 2)
    omega
  ·
   subst h4
   rw [if_neg (by decide)]
   have hq : (v * 2 ^ 8 + c.toNat) / 2 ^ (4 + 2) < 64 := by omega
   have hq2 : (v * 2 ^ 8 + c.toNat) % 2 ^ (4 + 2) / 2 ^ (4 - 4) < 64 := by omega
   refine ⟨inA_snoc (inA_snoc hA hq) hq2, .inl ?_⟩
   rw [dl_snoc _ _ 0 ds0 hq2, dl_snoc o _ 0 ds0 hq, hD, dstep_big (st := D) (by omega), d4]
   have hout : UInt8.ofNat ((D.v * 2 ^ 6 + (v * 2 ^ 8 + c.toNat) / 2 ^ (4 + 2)) / 2 ^ (4 - 2)) = z := ofNat_eq (by omega)
   rw [hout, dstep_big (by show 8 ≤ 4 - 2 + 6; decide)]
   have hout2 : UInt8.ofNat (((D.v * 2 ^ 6 + (v * 2 ^ 8 + c.toNat) / 2 ^ (4 + 2)) % 2 ^ (4 - 2) * 2 ^ 6 + (v * 2 ^ 8 + c.toNat) % 2 ^ (4 + 2) / 2 ^ (4 - 4)) / 2 ^ (4 - 2 - 2)) = c := ofNat_eq (by omega)
   refine ⟨rfl, by show (v * 2 ^ 8 + c.toNat) % 2 ^ (4 + 2) % 2 ^ (4 - 4) = 0; omega, rfl, by show _ % 2 ^ (4 - 2 - 2) = 0; omega, ?_, by simp; omega⟩
   show (D.o ++ [z]) ++ [_] = x.take (k + 1)
   rw [hout2, hDo, ← hy, hx]
theorem d61 : dval 61 = none := by decide
theorem dec_b64 (x : List UInt8) : ∃ st, decL (b64 x) (b64 x) 0 ds0 = some st ∧ st.v = 0 ∧ st.o = x ∧ (b64 x).length % 4 = 0 := by
 obtain ⟨hA, hcase⟩ := enc3_all x x.length (Nat.le_refl _)
 have hb : b64 x = padq (fin64 (bys x x.length)) ((4 - (fin64 (bys x x.length)).length % 4) % 4) := rfl
 generalize hE : bys x x.length = E at hb hA hcase
 obtain ⟨o, v, h⟩ := E
 generalize hD : dl o 0 ds0 = D at hcase
 dsimp only at hA hcase hb
 rw [List.take_length] at hcase
 rcases hcase with ⟨h0, v0, d0, w0, ho, hl⟩ | ⟨y, z, h2, d6, v4, w6, hy, hDo, hz, hl⟩ | ⟨y, z, h4, d4, v16, w16, hy, hDo, hz, hl⟩
 ·
  subst h0 v0
  have hf : fin64 ⟨o, 0, 0⟩ = o := if_neg (show ¬ 0 < 0 by decide)
  rw [hf, hl] at hb
  have hb' : b64 x = o := by rw [hb]; simp [padq]
  refine ⟨D, ?_, w0, ho, by rw [hb']; exact hl⟩
  rw [hb']
  have := decL_app o o [] 0 ds0 hA
  rw [List.append_nil, hD] at this
  rw [this]; rfl
 ·
  subst h2
  have hq : v * 2 ^ (6 - 2) < 64 := by omega
  have hf : fin64 ⟨o, v, 2⟩ = o ++ [a64 (v * 2 ^ (6 - 2))] := if_pos (show 0 < 2 by decide)
  have hfl : (o ++ [a64 (v * 2 ^ (6 - 2))]).length % 4 = 2 := by simp; omega
  rw [hf, hfl] at hb
  have hb' : b64 x = (o ++ [a64 (v * 2 ^ (6 - 2))]) ++ [61, 61] := by rw [hb]; rfl
  have hout : UInt8.ofNat ((D.v * 2 ^ 6 + v * 2 ^ (6 - 2)) / 2 ^ (6 - 2)) = z := ofNat_eq (by omega)
  have hst : dl (o ++ [a64 (v * 2 ^ (6 - 2))]) 0 ds0 = ⟨x, 0, 4, 0 + o.length⟩ := by
   rw [dl_snoc o _ 0 ds0 hq, hD, dstep_big (by omega), d6, hout, hDo, ← hy]
   congr 1
   omega
  refine ⟨⟨x, 0, 4, 0 + o.length⟩, ?_, rfl, rfl, by rw [hb']; simp; omega⟩
  have happ := decL_app (b64 x) (o ++ [a64 (v * 2 ^ (6 - 2))]) [61, 61] 0 ds0 (inA_snoc hA hq)
  rw [← hb', hst] at happ
  rw [happ, decL_none d61, if_pos]
  refine ⟨rfl, ?_⟩
  have hlen : (b64 x).length = o.length + 3 := by rw [hb']; simp
  have hlast : (b64 x).getD ((b64 x).length - 1) 0 = 61 := by rw [hlen, hb']; simp [List.getD]
  simp only [inPl, Bool.and_eq_true, Bool.or_eq_true, decide_eq_true_eq, hlast]
  refine ⟨by omega, .inr ⟨?_, trivial⟩⟩
  simp; omega
 ·
  subst h4
  have hq : v * 2 ^ (6 - 4) < 64 := by omega
  have hf : fin64 ⟨o, v, 4⟩ = o ++ [a64 (v * 2 ^ (6 - 4))] := if_pos (show 0 < 4 by decide)
  have hfl : (o ++ [a64 (v * 2 ^ (6 - 4))]).length % 4 = 3 := by simp; omega
  rw [hf, hfl] at hb
  have hb' : b64 x = (o ++ [a64 (v * 2 ^ (6 - 4))]) ++ [61] := by rw [hb]; rfl
  have hout : UInt8.ofNat ((D.v * 2 ^ 6 + v * 2 ^ (6 - 4)) / 2 ^ (4 - 2)) = z := ofNat_eq (by omega)
  have hst : dl (o ++ [a64 (v * 2 ^ (6 - 4))]) 0 ds0 = ⟨x, 0, 2, 0 + o.length⟩ := by
   rw [dl_snoc o _ 0 ds0 hq, hD, dstep_big (by omega), d4, hout, hDo, ← hy]
   congr 1
   omega
  refine ⟨⟨x, 0, 2, 0 + o.length⟩, ?_, rfl, rfl, by rw [hb']; simp; omega⟩
  have happ := decL_app (b64 x) (o ++ [a64 (v * 2 ^ (6 - 4))]) [61] 0 ds0 (inA_snoc hA hq)
  rw [← hb', hst] at happ
  rw [happ, decL_none d61, if_pos]
  refine ⟨rfl, ?_⟩
  have hlen : (b64 x).length = o.length + 2 := by rw [hb']; simp
  simp only [inPl, Bool.and_eq_true, Bool.or_eq_true, decide_eq_true_eq]
  refine ⟨by omega, .inl ?_⟩
  simp; omega
theorem decO_b64 (x : List UInt8) : decO (b64 x) = x := by
 obtain ⟨st, h1, h2, h3, h4⟩ := dec_b64 x
 rw [decO, h1]
 simp only [h4, h2, h3, ne_eq, not_true_eq_false, if_false]
theorem decE_b64 (x : List UInt8) : decE (b64 x) = 0 := by
 obtain ⟨st, h1, h2, h3, h4⟩ := dec_b64 x
 rw [decE, h1]
 simp only [h4, h2, ne_eq, not_true_eq_false, if_false]
theorem b64_inj {x y : List UInt8} (h : b64 x = b64 y) : x = y := by rw [← decO_b64 x, h, decO_b64]
theorem b64_no (x : List UInt8) : (10 : UInt8) ∉ b64 x := by
 obtain ⟨st, h1, _⟩ := dec_b64 x
 exact decL_no (b64 x) (b64 x) 0 _ _ (by simp) (Nat.zero_le _) h1
end Go.Proofs.YthfhhkanpnemcaaGreatDoor
namespace Go.Proofs.YthfhhkanpnemcaaGreatDoor
open Go.SL Go.RowKit
set_option linter.unusedVariables false
set_option maxRecDepth 100000
set_option linter.unusedSimpArgs false

structure Good2 (c : Con) : Prop extends Good c where
 name : prn c.name = true
 subj : prn c.subj = true
 ctl : c.ctl = [] ∨ ctlE c.ctl = 0
 dist : distB c.dist = true
theorem good2_of {c : Con} (h : checkM c = 0) : Good2 c := by
 refine { good_of h with name := ?_, subj := ?_, ctl := ?_, dist := ?_ }
 all_goals
  have h6 : chk6 c = 0 := by
   unfold checkM at h
   split at h
   ·
    assumption
   ·
    exact h
  unfold chk6 chkL at h6
  rw [mustM_0 (by decide), mustM_0 (by decide)] at h6
  obtain ⟨⟨h5, hl⟩, hb⟩ := h6
  unfold chk5 at h5
  rw [seeM_0, mustM_0 (by decide)] at h5
  obtain ⟨⟨h4, hn⟩, hp⟩ := h5
  unfold chk4 distM at h4
  rw [mustM_0 (by decide), mustM_0 (by decide)] at h4
  obtain ⟨⟨h4, _⟩, hdist⟩ := h4
  have h3 : seeM (chk3 c) (refErr c.refs) = 0 ∧ (c.ctl = [] ∨ ctlE c.ctl = 0) := by
   unfold ctrlM at h4
   split at h4
   ·
    rename_i hc; exact ⟨h4, .inl hc⟩
   ·
    rw [mustM_0 (by decide), seeM_0, mustM_0 (by decide)] at h4; exact ⟨h4.1.1.1, .inr h4.1.2⟩
  obtain ⟨h3, hctl⟩ := h3
  rw [seeM_0] at h3
  obtain ⟨h3, hr⟩ := h3
  unfold chk3 at h3
  rw [textM_0, seeM_0] at h3
  obtain ⟨⟨h2, hg⟩, _, hsubj, _⟩ := h3
  unfold chk2 at h2
  rw [mustM_0 (by decide)] at h2
  have h1 := h2.1
  unfold chk1 at h1
  rw [textM_0] at h1
  first | exact h1.2.2.1 | exact hsubj | exact hctl | exact hdist

theorem formP_eq (c : Con) : formP c = ([110, 97, 109, 101, 32] ++ c.name) ++ 10 :: (([97, 117, 116, 104, 111, 114, 32] ++ hexs c.author.l) ++ 10 :: (([100, 97, 116, 101, 32] ++ Lib.decDigits c.date.toNat) ++ 10 :: (([103, 114, 111, 117, 112, 115, 32] ++ grM c) ++ 10 :: (([115, 117, 98, 106, 101, 99, 116, 32] ++ c.subj) ++ 10 :: (([114, 101, 102, 101, 114, 101, 110, 99, 101, 115, 32] ++ rfM c) ++ 10 :: (([115, 117, 112, 101, 114, 115, 101, 100, 101, 115, 32] ++ msgM c.sup) ++ 10 :: (([99, 111, 110, 116, 114, 111, 108, 32] ++ c.ctl) ++ 10 :: (([100, 105, 115, 116, 114, 105, 98, 117, 116, 105, 111, 110, 32] ++ c.dist) ++ 10 :: (([107, 101, 121, 32] ++ keyP c) ++ 10 :: (([108, 101, 97, 102, 32] ++ Lib.decDigits c.leaf.toNat) ++ 10 :: (10 :: c.body))))))))))) := by
 unfold formP partsP
 simp only [join_two, join_one, List.append_assoc, List.cons_append, List.nil_append, List.singleton_append]

theorem nlp {p x : List UInt8} (hp : (10 : UInt8) ∉ p) (hx : (10 : UInt8) ∉ x) : (10 : UInt8) ∉ p ++ x := by simp [hp, hx]
theorem dec_no (u : Nat) : (10 : UInt8) ∉ Lib.decDigits u ∧ (32 : UInt8) ∉ Lib.decDigits u := by
 constructor
 ·
  intro h; have := (dec_chars u 10 h).1; exact absurd this (by decide)
 ·
  intro h; have := (dec_chars u 32 h).1; exact absurd this (by decide)
theorem hexs_no (l : List UInt8) : (10 : UInt8) ∉ hexs l := fun h => absurd (hexs_mem l 10 h) (by decide)
theorem idt_no (l : List UInt8) : (10 : UInt8) ∉ idt l ∧ (32 : UInt8) ∉ idt l := ⟨fun h => absurd (idt_mem l 10 h) (by decide), fun h => absurd (idt_mem l 32 h) (by decide)⟩
theorem gr_eq {c : Con} (h : fmtErr c.groups = 0) : grM c = Lib.join c.groups [44] := if_pos h
theorem gr_no {c : Con} (h : fmtErr c.groups = 0) : (10 : UInt8) ∉ grM c := fun hc => by
 rw [gr_eq h] at hc
 rcases join_mem hc with h1 | ⟨x, hx, h1⟩
 ·
  exact absurd h1 (by decide)
 ·
  exact (name_no ((fmt_all h).2 x hx)).1 h1
theorem prM_join (xs : List (B 32)) : prM xs = Lib.join (idTs xs) [32] := (join_jn _ _).symm
theorem rf_eq {c : Con} (h : refErr c.refs = 0) : rfM c = if 0 < c.refs.length then Lib.join (idTs c.refs) [32] else [] := by
 unfold rfM refsM
 rw [if_pos h, prM_join]
theorem idTs_no (xs : List (B 32)) : ∀ x ∈ idTs xs, (10 : UInt8) ∉ x ∧ (32 : UInt8) ∉ x := by
 intro x hx
 simp only [idTs, List.mem_map] at hx
 obtain ⟨b, _, rfl⟩ := hx
 exact idt_no b.l
theorem rf_no {c : Con} (h : refErr c.refs = 0) : (10 : UInt8) ∉ rfM c := by
 rw [rf_eq h]
 split
 ·
  intro hc
  rcases join_mem hc with h1 | ⟨x, hx, h1⟩
  ·
   exact absurd h1 (by decide)
  ·
   exact (idTs_no _ x hx).1 h1
 ·
  simp
theorem idTs_inj : ∀ {xs ys : List (B 32)}, idTs xs = idTs ys → xs = ys
 | [], [], _ => rfl
 | [], _ :: _, h => by simp [idTs] at h
 | _ :: _, [], h => by simp [idTs] at h
 | x :: r, y :: s, h => by
  simp only [idTs, List.map_cons, List.cons.injEq] at h
  rw [idt_inj h.1, idTs_inj (xs := r) (ys := s) h.2]
theorem join_ne {xs : List (B 32)} (h : 0 < xs.length) : Lib.join (idTs xs) [32] ≠ [] := by
 cases xs with
 | nil => simp at h
 | cons x r =>
  cases r with
  | nil => show Lib.join [idt x.l] [32] ≠ []; rw [join_one]; intro e; have := congrArg List.length e; rw [idt_len] at this; simp at this
  | cons y r => show Lib.join (idt x.l :: idt y.l :: idTs r) [32] ≠ []; rw [join_two]; simp
theorem rf_inj {a b : Con} (ha : refErr a.refs = 0) (hb : refErr b.refs = 0) (h : rfM a = rfM b) : a.refs = b.refs := by
 rw [rf_eq ha, rf_eq hb] at h
 by_cases h1 : 0 < a.refs.length
 ·
  by_cases h2 : 0 < b.refs.length
  ·
   rw [if_pos h1, if_pos h2] at h
   refine idTs_inj (join_inj ?_ ?_ (fun x hx => (idTs_no _ x hx).2) (fun x hx => (idTs_no _ x hx).2) h)
   ·
    intro e; have := congrArg List.length e; simp [idTs] at this; rw [this] at h1; simp at h1
   ·
    intro e; have := congrArg List.length e; simp [idTs] at this; rw [this] at h2; simp at h2
  ·
   rw [if_pos h1, if_neg h2] at h
   exact absurd h (join_ne h1)
 ·
  by_cases h2 : 0 < b.refs.length
  ·
   rw [if_neg h1, if_pos h2] at h
   exact absurd h.symm (join_ne h2)
  ·
   rw [List.eq_nil_of_length_eq_zero (show a.refs.length = 0 by omega), List.eq_nil_of_length_eq_zero (show b.refs.length = 0 by omega)]
theorem gr_inj {a b : Con} (ha : fmtErr a.groups = 0) (hb : fmtErr b.groups = 0) (h : grM a = grM b) : a.groups = b.groups := by
 rw [gr_eq ha, gr_eq hb] at h
 exact join_inj (fmt_all ha).1 (fmt_all hb).1 (fun x hx => (name_no ((fmt_all ha).2 x hx)).2) (fun x hx => (name_no ((fmt_all hb).2 x hx)).2) h
theorem key_eq {c : Con} (h : pubErr c.height = 0) : keyP c = Lib.decDigits c.num.toNat ++ 32 :: b64 (pkB c.height c.root) := by
 unfold keyP pubT
 rw [if_pos h]
 simp
theorem key_no {c : Con} (h : pubErr c.height = 0) : (10 : UInt8) ∉ keyP c := by
 rw [key_eq h]
 simp only [List.mem_append, List.mem_cons, not_or]
 exact ⟨(dec_no _).1, by decide, b64_no _⟩
theorem key_inj {a b : Con} (ha : Good a) (hb : Good b) (h : keyP a = keyP b) : a.num = b.num ∧ a.height = b.height ∧ a.root = b.root := by
 rw [key_eq ha.height, key_eq hb.height] at h
 obtain ⟨h1, h2⟩ := split_at (dec_no _).2 (dec_no _).2 h
 have h3 := b64_inj h2
 have p1 := pubErr_ok ha.height
 have p2 := pubErr_ok hb.height
 refine ⟨decI_inj ha.num.1 hb.num.1 h1, ?_⟩
 unfold pkB at h3
 simp only [List.cons_append, List.nil_append, List.cons.injEq] at h3
 refine ⟨?_, B.ext h3.2⟩
 have := congrArg UInt8.toNat h3.1
 rw [UInt8.toNat_ofNat', UInt8.toNat_ofNat'] at this
 omega
theorem body_split {r s : List UInt8} (h : (10 : UInt8) :: r = 10 :: s) : r = s := by simpa using h

theorem form_inj (a b : Con) (ha : checkM a = 0) (hb : checkM b = 0) (h : formP a = formP b) : a = b := by
 have ga := good2_of ha
 have gb := good2_of hb
 have ctl_no' : ∀ {s : List UInt8}, s = [] ∨ ctlE s = 0 → (10 : UInt8) ∉ s := fun h => by
  rcases h with rfl | h
  ·
   simp
  ·
   exact ctl_no h
 have msg_no : ∀ b : B 32, (10 : UInt8) ∉ msgM b := fun b => by
  unfold msgM
  split
  ·
   simp
  ·
   exact (idt_no _).1
 rw [formP_eq a, formP_eq b] at h
 obtain ⟨e1, h⟩ := split_at (nlp (by decide) (prn_nl ga.name)) (nlp (by decide) (prn_nl gb.name)) h
 obtain ⟨e2, h⟩ := split_at (nlp (by decide) (hexs_no _)) (nlp (by decide) (hexs_no _)) h
 obtain ⟨e3, h⟩ := split_at (nlp (by decide) (dec_no _).1) (nlp (by decide) (dec_no _).1) h
 obtain ⟨e4, h⟩ := split_at (nlp (by decide) (gr_no ga.groups)) (nlp (by decide) (gr_no gb.groups)) h
 obtain ⟨e5, h⟩ := split_at (nlp (by decide) (prn_nl ga.subj)) (nlp (by decide) (prn_nl gb.subj)) h
 obtain ⟨e6, h⟩ := split_at (nlp (by decide) (rf_no ga.refs)) (nlp (by decide) (rf_no gb.refs)) h
 obtain ⟨e7, h⟩ := split_at (nlp (by decide) (msg_no _)) (nlp (by decide) (msg_no _)) h
 obtain ⟨e8, h⟩ := split_at (nlp (by decide) (ctl_no' ga.ctl)) (nlp (by decide) (ctl_no' gb.ctl)) h
 obtain ⟨e9, h⟩ := split_at (nlp (by decide) (dist_nl ga.dist)) (nlp (by decide) (dist_nl gb.dist)) h
 obtain ⟨e10, h⟩ := split_at (nlp (by decide) (key_no ga.height)) (nlp (by decide) (key_no gb.height)) h
 obtain ⟨e11, h⟩ := split_at (nlp (by decide) (dec_no _).1) (nlp (by decide) (dec_no _).1) h
 obtain ⟨k1, k2, k3⟩ := key_inj ga.toGood gb.toGood (List.append_cancel_left e10)
 have n1 := List.append_cancel_left e1
 have n2 := hexB_inj (List.append_cancel_left e2)
 have n3 := decI_inj ga.date.1 gb.date.1 (List.append_cancel_left e3)
 have n4 := gr_inj ga.groups gb.groups (List.append_cancel_left e4)
 have n5 := List.append_cancel_left e5
 have n6 := rf_inj ga.refs gb.refs (List.append_cancel_left e6)
 have n7 := msgM_inj (List.append_cancel_left e7)
 have n8 := List.append_cancel_left e8
 have n9 := List.append_cancel_left e9
 have n10 := decI_inj ga.leaf.1 gb.leaf.1 (List.append_cancel_left e11)
 have n11 := body_split h
 cases a; cases b
 simp only at n1 n2 n3 n4 n5 n6 n7 n8 n9 n10 n11 k1 k2 k3
 subst n1 n2 n3 n4 n5 n6 n7 n8 n9 n10 n11 k1 k2 k3
 rfl

theorem form_ref (a : Con) (ha : checkM a = 0) : formM a = formP a := by
 have g := good_of ha
 have h1 : grM a = jn [44] a.groups := by rw [gr_eq g.groups, join_jn]
 have h2 : rfM a = refsM a := by
  unfold rfM
  split
  ·
   rfl
  ·
   rename_i hn
   have : a.refs = [] := List.eq_nil_of_length_eq_zero (by omega)
   unfold refsM
   rw [if_pos g.refs, this]
   rfl
 have h3 : keyP a = keyM a := by
  rw [key_eq g.height, keyM]
  simp
 have h4 : partsP a = partsM a := by unfold partsP partsM; rw [h1, h2, h3]
 unfold formM formP
 rw [h4, join_jn]
end Go.Proofs.YthfhhkanpnemcaaGreatDoor
namespace Go.Proofs.YthfhhkanpnemcaaGreatDoor
open Go.SL Go.RowKit
set_option linter.unusedVariables false
set_option maxRecDepth 100000
set_option linter.unusedSimpArgs false

theorem idsV_get {k : Nat} (hk : 0 < k) (xs : List (B k)) (j : Nat) (v : Value) (h : (idsV xs)[j]? = some v) : ∃ b, xs[j / k]? = some b ∧ (flat [b.seg]).toList[j % k]? = some v := by
 have hj : j < xs.length * k := by rw [← idsV_len xs]; exact (List.getElem?_eq_some_iff.1 h).1
 have hd : j / k < xs.length := Nat.div_lt_of_lt_mul (by rw [Nat.mul_comm]; exact hj)
 have hm : j % k < (flat [(xs[j / k]).seg]).toList.length := by rw [seg_len]; exact Nat.mod_lt _ hk
 have h1 := idsV_at xs (j / k) _ (List.getElem?_eq_getElem hd) (j % k) _ (List.getElem?_eq_getElem hm)
 rw [show j / k * k + j % k = j by rw [Nat.mul_comm]; exact Nat.div_add_mod j k, h] at h1
 exact ⟨_, List.getElem?_eq_getElem hd, by rw [List.getElem?_eq_getElem hm]; exact h1.symm⟩

theorem rc_ids {g : Nat} {w : World} {a : Option Addr} {len cap : Nat} (hg : ∀ es, SL.Rd Tryz.prog w g 26 es → ∃ b : B 32, es = [b.seg])
  (h : (a = none ∧ len = 0 ∧ cap = 0) ∨ ∃ ad, a = some ad ∧ len ≤ cap ∧ cap ≤ maxLen ∧ len * Tryz.prog.bytesOf 26 ≤ 140737488351232 ∧ ∃ E : Nat → List Seg, ∀ i, i < len → ElemAt w (ad.add (i * Tryz.prog.cellsOf 26)) (E i) ∧ SL.Rd Tryz.prog w g 26 (E i)) :
  ∃ xs : List (B 32), RC 32 w a len (idsV xs) ∧ len ≤ cap := by
 have hle : len ≤ maxLen ∧ len ≤ cap := by
  rcases h with ⟨_, rfl, rfl⟩ | ⟨ad, _, h1, h2, _⟩
  ·
   exact ⟨Nat.zero_le _, Nat.le_refl _⟩
  ·
   exact ⟨Nat.le_trans h1 h2, h1⟩
 rcases slRd_of (P := Tryz.prog) 32 (by kernel_rfl) (by omega) (fun es he => by obtain ⟨b, rfl⟩ := hg es he; rfl) h with h0 | ⟨b, off, ha, hb, E, hE⟩
 ·
  subst h0
  exact ⟨[], ⟨by simp [idsV], Nat.zero_le _, .inl rfl⟩, hle.2⟩
 ·
  have hX : ∀ i, i < len → ∃ x : B 32, w.rangeAt b (off + i * 32) (flat [x.seg]).toList := fun i hi => by
   obtain ⟨x, hx⟩ := hg _ (hE i hi).2
   exact ⟨x, hx ▸ (hE i hi).1⟩
  refine ⟨List.ofFn fun i : Fin len => Classical.choose (hX i i.2), ⟨by rw [idsV_len, List.length_ofFn], hle.1, .inr ⟨b, off, ha, hb, fun j v hj => ?_⟩⟩, hle.2⟩
  obtain ⟨x, hx, hv⟩ := idsV_get (by omega) _ j v hj
  obtain ⟨hl, hx⟩ := List.getElem?_eq_some_iff.1 hx
  rw [List.getElem_ofFn] at hx
  rw [List.length_ofFn] at hl
  have := Classical.choose_spec (hX (j / 32) hl) (j % 32) v (by rw [hx]; exact hv)
  rw [show off + j / 32 * 32 + j % 32 = off + j by omega] at this
  exact this

theorem rc_strs {g : Nat} {w : World} {a : Option Addr} {len cap : Nat} (hg : ∀ es, SL.Rd Tryz.prog w g 9 es → ∃ l : List UInt8, es = [.one (str l) rfl] ∧ l.length ≤ 140737488351232)
  (h : (a = none ∧ len = 0 ∧ cap = 0) ∨ ∃ ad, a = some ad ∧ len ≤ cap ∧ cap ≤ maxLen ∧ len * Tryz.prog.bytesOf 9 ≤ 140737488351232 ∧ ∃ E : Nat → List Seg, ∀ i, i < len → ElemAt w (ad.add (i * Tryz.prog.cellsOf 9)) (E i) ∧ SL.Rd Tryz.prog w g 9 (E i)) :
  ∃ xs : List (List UInt8), RC 1 w a len (xs.map str) ∧ len ≤ cap ∧ ∀ x ∈ xs, x.length ≤ 140737488351232 := by
 have hle : len ≤ maxLen ∧ len ≤ cap := by
  rcases h with ⟨_, rfl, rfl⟩ | ⟨ad, _, h1, h2, _⟩
  ·
   exact ⟨Nat.zero_le _, Nat.le_refl _⟩
  ·
   exact ⟨Nat.le_trans h1 h2, h1⟩
 rcases slRd_of (P := Tryz.prog) 1 (by kernel_rfl) (by omega) (fun es he => by obtain ⟨b, rfl, _⟩ := hg es he; rfl) h with h0 | ⟨b, off, ha, hb, E, hE⟩
 ·
  subst h0
  exact ⟨[], ⟨by simp, Nat.zero_le _, .inl rfl⟩, hle.2, fun x hx => by cases hx⟩
 ·
  have hX : ∀ i, i < len → ∃ x : List UInt8, w.rangeAt b (off + i * 1) (flat [.one (str x) rfl]).toList ∧ x.length ≤ 140737488351232 := fun i hi => by
   obtain ⟨x, hx, hl⟩ := hg _ (hE i hi).2
   exact ⟨x, hx ▸ (hE i hi).1, hl⟩
  refine ⟨List.ofFn fun i : Fin len => Classical.choose (hX i i.2), ⟨by simp, hle.1, .inr ⟨b, off, ha, hb, fun j v hj => ?_⟩⟩, hle.2, fun x hx => ?_⟩
  ·
   rw [List.getElem?_map] at hj
   obtain ⟨x, hx, rfl⟩ := Option.map_eq_some_iff.1 hj
   obtain ⟨hl, hx⟩ := List.getElem?_eq_some_iff.1 hx
   rw [List.getElem_ofFn] at hx
   rw [List.length_ofFn] at hl
   have := (Classical.choose_spec (hX j hl)).1 0 (str x) (by rw [← hx]; simp [flat, Seg.cs])
   rw [show off + j * 1 + 0 = off + j by omega] at this
   exact this
  ·
   rw [List.mem_ofFn] at hx
   obtain ⟨i, rfl⟩ := hx
   exact (Classical.choose_spec (hX i i.2)).2

theorem rd_con {g : Nat} {w : World} {ss : List Seg} (h : SL.Rd Tryz.prog w (g + 3) 28 ss) : ∃ (c : Con) (p : CAt), ss = cseg c p ∧ CIn c ∧ CRd w c p := by
 simp only [SL.Rd, Tryz.underlying28, RdL, Tryz.underlying3, Tryz.underlying9, Tryz.underlying22, Tryz.underlying23, Tryz.underlying24, Tryz.underlying26] at h
 obtain ⟨p1, q1, rfl, ⟨name, rfl, h1⟩, p2, q2, rfl, ⟨author, rfl⟩, p3, q3, rfl, ⟨date, rfl, _⟩, p4, q4, rfl, ⟨ga, gl, gc, rfl, hgr⟩, p5, q5, rfl, ⟨subj, rfl, h5⟩, p6, q6, rfl, ⟨ra, rl, rc, rfl, hrf⟩, p7, q7, rfl, ⟨sup, rfl⟩, p8, q8, rfl, ⟨ctl, rfl, h8⟩,
  p9, q9, rfl, ⟨dist, rfl, h9⟩, p10, q10, rfl, ⟨num, rfl, _⟩, p11, q11, rfl, ⟨height, rfl, _⟩, p12, q12, rfl, ⟨root, rfl⟩, p13, q13, rfl, ⟨leaf, rfl, _⟩, p14, q14, rfl, ⟨body, rfl, h14⟩, rfl⟩ := h
 obtain ⟨gs, hG, hgc, hgl⟩ := rc_strs (g := g + 1) (fun es he => by simpa only [SL.Rd, Tryz.underlying9] using he) hgr
 obtain ⟨rs, hR, hrc⟩ := rc_ids (g := g + 1) (fun es he => by simpa only [SL.Rd, Tryz.underlying26] using he) hrf
 exact ⟨⟨name, author, date, gs, subj, rs, sup, ctl, dist, num, height, root, leaf, body⟩, ⟨ga, gl, gc, ra, rl, rc⟩, rfl, ⟨h1, h5, h8, h9, h14, hgl⟩, ⟨hG, hR, hgc, hrc⟩⟩

/-- the variables of the library that are read -/
theorem glob_of {W : World} (hL : laidMetH Tryz.prog Rows.canonicalIdentityRow.laid W) (hS : W.ShapedOpen Tryz.prog) : Glob W := by
 have hb : ∀ g, g < 6 → ∃ (z : Array Value) (t : TypeId), ((begin Tryz.prog (fun _ _ => 0) default).world.heap[g]?).bind Obj.row? = some (z, t) := fun g hg => by
  have : ((List.range 6).all fun g => (((begin Tryz.prog (fun _ _ => 0) default).world.heap[g]?).bind Obj.row?).isSome) = true := by kernel_rfl
  have := List.all_eq_true.1 this g (List.mem_range.2 hg)
  obtain ⟨⟨z, t⟩, h⟩ := Option.isSome_iff_exists.1 this
  exact ⟨z, t, h⟩
 have hgs : Tryz.prog.globals.size = 6 := by kernel_rfl
 refine ⟨?_, ?_, ?_⟩
 ·
  obtain ⟨z, t, h⟩ := hb 5 (by omega)
  obtain ⟨cs, hh, _⟩ := hS.1 5 z t (by omega) h
  exact (Array.getElem?_eq_some_iff.1 hh).1
 ·
  obtain ⟨cs, hh, hs, hr⟩ := hS.1 0 #[.int .i64 0] 3 (by omega) (by kernel_rfl)
  obtain ⟨ts, hts, _, hall⟩ := hr (by kernel_rfl)
  rw [show Tryz.prog.cellTypes Tryz.prog.depth 3 = some [3] by kernel_rfl] at hts
  cases hts
  have h1 : 0 < cs.size := by rw [hs]; decide
  obtain ⟨u, hu', hok⟩ := hall 0 cs[0] (by simp [h1])
  have : u = 3 := by simpa using hu'.symm
  subst this
  have hcell : W.cell? ⟨0, 0, none⟩ = some cs[0] := by simp [World.cell?, hh, h1]
  rw [hcell]
  unfold Cell.ok at hok
  rw [Tryz.underlying3] at hok
  cases hv : cs[0] <;> rw [hv] at hok <;> simp at hok
  exact ⟨_, by rw [hok.1]⟩
 ·
  rw [MakeChecks.laidMetH_plain _ _ _ (by kernel_rfl)] at hL
  have hl := hL.filter fun x => x.1 == "internal/strconv.uint64pow10"
  rw [show (Rows.canonicalIdentityRow.laid.filter fun x => x.1 == "internal/strconv.uint64pow10") = [("internal/strconv.uint64pow10", Lib.tabData .u64 Lib.pow10Tab)] by kernel_rfl] at hl
  exact Lib.tabIs_of_head (g := 1) (t := 195) (e := 75) (n := 20) (by kernel_rfl) (by kernel_rfl) (by kernel_rfl) (by kernel_rfl) (by kernel_rfl) (by kernel_rfl) hl
end Go.Proofs.YthfhhkanpnemcaaGreatDoor
