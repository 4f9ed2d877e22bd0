/- The law TransferOnce: what is plain in it, and the function 'length'. -/
import Derived.Test.YtdlemfjdabnpcaaTr8
import Derived.Test.YtdlemfjdabnpcaaRep
import Derived.Lib.Repeat
namespace Go.Proofs.Ytdlemfjdabnpcaa
open Go.SL Go.RowKit
set_option linter.unusedVariables false
set_option linter.unusedSimpArgs false

theorem bounds_u16 {n : Int} (h : (Lit.int .u16 n).wf = true) : 0 ≤ n ∧ n ≤ 65535 := by
  have h1 : IntKind.u16.min = 0 := rfl
  have h2 : IntKind.u16.max = 65535 := rfl
  simp only [Lit.wf, Bool.and_eq_true, decide_eq_true_eq] at h
  omega
theorem bounds_u8 {n : Int} (h : (Lit.int .u8 n).wf = true) : 0 ≤ n ∧ n ≤ 255 := by
  have h1 : IntKind.u8.min = 0 := rfl
  have h2 : IntKind.u8.max = 255 := rfl
  simp only [Lit.wf, Bool.and_eq_true, decide_eq_true_eq] at h
  omega

/-- text, repeated -/
def rep (n : Int) : List UInt8 := Lib.repeatL [48, 49, 50, 51, 52, 53, 54, 55, 56, 57, 10] (n % 700).toNat
theorem rep_len (n : Int) : (rep n).length ≤ 7689 := by
  unfold rep
  rw [Lib.repeatL_length]
  have : (n % 700).toNat ≤ 699 := by omega
  simp
  omega

theorem repeat_c (c : Int) (hc : 0 ≤ c ∧ c ≤ 699) (w : World) : Calls Try.prog 25 [str [48, 49, 50, 51, 52, 53, 54, 55, 56, 57, 10], .int .i64 c].toArray w fun e w' => e = .returned (str (Lib.repeatL [48, 49, 50, 51, 52, 53, 54, 55, 56, 57, 10] c.toNat)) ∧ Keeps none1 w w' := by
  obtain ⟨k, rfl⟩ : ∃ k : Nat, c = k := ⟨c.toNat, by omega⟩
  refine (Try.strings_Repeat ⟨#[48, 49, 50, 51, 52, 53, 54, 55, 56, 57, 10]⟩ k w (by omega) (by simp [ByteArray.size]; omega)).mono fun e w' ⟨he, hb⟩ => ⟨?_, Keeps.of_below hb⟩
  rw [he]; rfl

theorem Pure.convSame {P : Program} {n : Nat} {W : Nat → Prop} {w0 : World} {l : List (Nat × Value)} {m : List Res} {o : Oper} {x : Operand} {s t : TypeId} {k : IntKind} {p : Int} (ho : o.op = .convert s t x) (hx : ev l x = some (.int k p)) (hs : (P.underlying s).isSome = true) (hk : P.underlying t = some (.int .i64)) (h0 : 0 ≤ p) (h1 : p ≤ 65535) : SL.Pure P n W w0 l m o (.int .i64 p) := by
  have h := SL.Pure.convI (n := n) (W := W) (w0 := w0) (m := m) ho hx hs hk
  have e : IntKind.i64.wrap p = p := by
    simp only [IntKind.wrap]
    have h1 : IntKind.i64.min = -9223372036854775808 := rfl
    have h2 : IntKind.i64.max = 9223372036854775807 := rfl
    have h3 : IntKind.i64.bits = 64 := rfl
    simp [IntKind.signed, h3]
    omega
  rw [e] at h
  exact h

theorem length_c (t : List UInt8) (n : Int) (ht : t.length ≤ 300) (hn : 0 ≤ n ∧ n ≤ 65535) (w : World) : Calls Try.prog 16 [str t, .int .u16 n].toArray w fun e w' => e = .returned (str (t ++ rep n)) ∧ Keeps none1 w w' := by
  have hr := rep_len n
  refine SL.calls_ok (n := 11) (W := SL.none1) (m := []) Try.func16 rfl Try.ntmps16 rfl (SL.Mem.nil _ _ _) ?_
  simp only [SL.enum, Nat.reduceAdd]
  refine SL.Ok.seq fun K1 hK1 => ?_
  refine SL.Ok.region ?_
  refine SL.Ok.op rfl rfl rfl (SL.Pure.assign rfl rfl) ?_
  refine SL.Ok.nil ?_
  refine SL.Ok.normThen ?_
  refine hK1 _ _ ?_
  refine SL.Ok.seq fun K2 hK2 => ?_
  refine SL.Ok.region ?_
  refine SL.Ok.op rfl rfl rfl (SL.Pure.move rfl rfl) ?_
  refine SL.Ok.op rfl rfl rfl (SL.Pure.move rfl rfl) ?_
  refine SL.Ok.op rfl rfl rfl (Pure.convSame rfl rfl (by kernel_rfl) Try.underlying3 (by omega) (by omega)) ?_
  refine SL.Ok.op rfl rfl rfl (SL.Pure.remI rfl rfl rfl (by omega) (by omega) (by omega)) ?_
  refine SL.Ok.eff rfl (SL.Eff.callV rfl rfl (by kernel_rfl) rfl rfl (fun w hM hK => repeat_c (n % 700) (by omega) w)) ?_
  intro _ _
  try simp only [SL.setN, SL.putD, SL.selM, SL.nth, List.cons_append, List.nil_append]
  refine SL.Ok.op rfl rfl rfl (SL.Pure.addS rfl rfl rfl (show t.length + (rep n).length ≤ _ by omega)) ?_
  refine SL.Ok.op rfl rfl rfl (SL.Pure.assign rfl rfl) ?_
  refine SL.Ok.nil ?_
  refine SL.Ok.normThen ?_
  refine hK2 _ _ ?_
  refine SL.Ok.ret SL.retHere (SL.resL rfl (.cons (.tmp rfl) .nil) rfl) (fun w' hM' hK' => ?_)
  exact ⟨rfl, hK'⟩

/-- what is so of the receiver -/
structure TI (T : List UInt8) (id : B 32) (r : RS) : Prop where
  inv : rinv r
  size : r.size = T.length
  id : r.id = id
  pre : r.t <+: T
  all : r.fin = true → r.t = T
structure SI (T : List UInt8) (id : B 32) (r : RS) (s : SS) : Prop where
  ti : TI T id r
  sid : s.id = id
  st : s.t = T
  ch1 : 1 ≤ s.chunk
  ch2 : s.chunk ≤ 4096
  sent : s.sent = r.t.length
  fin : s.fin = r.fin

theorem SI.sinv {T : List UInt8} {id : B 32} {r : RS} {s : SS} (h : SI T id r s) (hT : T.length ≤ 65536) : sinv s := by
  have h1 := h.ti.pre.length_le
  refine ⟨by rw [h.st]; exact hT, h.ch1, h.ch2, by rw [h.sent]; omega, by rw [h.sent, h.st]; omega⟩

theorem strange {r : RS} {id : B 32} (hid : r.id = id) {v : Int} {ci : B 32} {f : Int} {xs : List UInt8} (h : ci ≠ id ∨ (f ≠ r.t.length ∧ v = 7) ∨ (v ≠ 7 ∧ v ≠ 8)) :
    hear r v ci f xs = (r, (hear r v ci f xs).2) ∧ (hear r v ci f xs).2 ≠ 0 := by
  subst hid
  unfold hear
  by_cases h1 : r.fin = true
  · simp [h1]
  by_cases h2 : v ≠ 7 ∧ v ≠ 8
  · simp [h1, h2]
  by_cases h3 : ci ≠ r.id
  · simp [h1, h2, h3]
  · rcases h with h | ⟨h, rfl⟩ | h
    · exact absurd h h3
    · simp [h1, h3, h]
    · exact absurd h h2

theorem say_hear {T : List UInt8} {id : B 32} {r : RS} {s : SS} (h : SI T id r s) : ∃ s' v i f x is, say s = (s', ccmd v i f x, is) ∧ (is = false → s = s' ∧ s.fin = true) ∧
    (is = true → ∃ r', hear r v i f x = (r', 0) ∧ SI T id r' s' ∧ (s'.fin = true ∨ s.sent + 1 ≤ s'.sent) ∧ s.sent ≤ s'.sent ∧ s.fin = false) := by
  obtain ⟨ti, sid, st, ch1, ch2, sent, fin⟩ := h
  obtain ⟨inv, size, rid, pre, all⟩ := ti
  have hle := pre.length_le
  cases hf : s.fin with
  | true => exact ⟨s, 0, B.zero 32, 0, [], false, by simp [say, hf], fun _ => ⟨rfl, rfl⟩, fun h => by cases h⟩
  | false =>
    have hrf : r.fin = false := by rw [← fin]; exact hf
    by_cases he : s.sent = s.t.length
    · have hall : r.t = T := pre.eq_of_length (by rw [st] at he; omega)
      refine ⟨{ s with fin := true }, 8, s.id, 0, [], true, by simp [say, hf, he], fun h => absurd h (by decide), fun _ => ⟨{ r with fin := true }, hear_done hrf (sid.trans rid.symm) (by rw [size, hall]; omega), ⟨⟨inv, size, rid, pre, fun _ => hall⟩, sid, st, ch1, ch2, sent, rfl⟩, .inl rfl, Int.le_refl _, rfl⟩⟩
    · have hlt : (r.t.length : Int) < T.length := by rw [st] at he; omega
      refine ⟨{ s with sent := min s.t.length (s.sent + s.chunk) }, 7, s.id, s.sent, _, true, by simp only [say, hf, he]; simp; rfl, fun h => absurd h (by decide), fun _ => ?_⟩
      obtain ⟨u, hu⟩ := pre
      have hx : (s.t.take (min (s.t.length : Int) (s.sent + s.chunk)).toNat).drop s.sent.toNat = u.take ((min (T.length : Int) (s.sent + s.chunk)).toNat - r.t.length) := by
        rw [st, sent, Int.toNat_natCast, ← hu, List.drop_take, List.drop_left]
      have hul : T.length = r.t.length + u.length := by rw [← hu]; simp
      have hxl : (u.take ((min (T.length : Int) (s.sent + s.chunk)).toNat - r.t.length)).length = (min (T.length : Int) (s.sent + s.chunk)).toNat - r.t.length := by
        rw [List.length_take]; omega
      rw [hx]
      refine ⟨{ r with t := r.t ++ u.take ((min (T.length : Int) (s.sent + s.chunk)).toNat - r.t.length) }, hear_data hrf (sid.trans rid.symm) sent (by rw [hxl, size]; omega), ⟨⟨⟨inv.1, inv.2.1, ?_⟩, size, rid, ?_, fun h => by simp [hrf] at h⟩, sid, st, ch1, ch2, ?_, hf.trans hrf.symm⟩, .inr ?_, ?_, rfl⟩
      · simp only [List.length_append, hxl]; rw [size]; omega
      · rw [← hu]; exact (List.prefix_append_right_inj _).2 (List.take_prefix _ _)
      · simp only [List.length_append, hxl]; rw [st]; omega
      · simp only; rw [st]; omega
      · simp only; rw [st]; omega

theorem TI.new (T : List UInt8) (id : B 32) (hT : T.length ≤ 65536) : TI T id ⟨id, T.length, [], false⟩ := ⟨⟨by simp, by simp; omega, by simp⟩, rfl, rfl, List.nil_prefix, by simp⟩

end Go.Proofs.Ytdlemfjdabnpcaa
