/- The law TransferPrefix: its walk. -/
import Derived.Test.YtdlemfjdabnpcaaTr6
import Derived.Test.YtdlemfjdabnpcaaSl9
namespace Go.Proofs.Ytdlemfjdabnpcaa
open Go.SL Go.RowKit
set_option linter.unusedVariables false
set_option linter.unusedSimpArgs false

/-- a command of the reference that came in -/
theorem rd_rcmd {g : Nat} {w : World} {ss : List Seg} (h : Rd Try.prog w (g + 3) 31 ss) : ∃ v i f x, ss = rcmd v i f x ∧ (-9223372036854775808 ≤ v ∧ v ≤ 9223372036854775807) ∧ (-9223372036854775808 ≤ f ∧ f ≤ 9223372036854775807) ∧ x.length ≤ 140737488351232 := by
  simp only [Rd, Try.underlying31, RdL, Try.underlying3, Try.underlying23, Try.underlying9] at h
  obtain ⟨p1, q1, rfl, ⟨v, rfl, hv⟩, p2, q2, rfl, ⟨b, rfl⟩, p3, q3, rfl, ⟨f, rfl, hf⟩, p4, q4, rfl, ⟨x, rfl, hx⟩, rfl⟩ := h
  exact ⟨v, b, f, x, rfl, bounds_i64 hv, bounds_i64 hf, hx⟩

theorem hear_pre {r : RS} {t : List UInt8} (hi : rinv r) (hs : r.size = t.length) (hp : r.t <+: t) (hf : r.fin = true → r.size ≤ r.t.length) (v : Int) (i : B 32) (f : Int) (k : Nat) (hf0 : 0 ≤ f) (hf1 : f ≤ t.length) :
    let x := (t.take (min (t.length : Int) (f + k)).toNat).drop f.toNat
    (hear r v i f x).1.t <+: t ∧ ((hear r v i f x).1.fin = true → (hear r v i f x).1.size ≤ (hear r v i f x).1.t.length) ∧ r.t.length ≤ (hear r v i f x).1.t.length := by
  intro x
  have hx : x = (t.take (min (t.length : Int) (f + k)).toNat).drop f.toNat := rfl
  clear_value x
  unfold hear
  (repeat' split)
  · exact ⟨hp, hf, Nat.le_refl _⟩
  · exact ⟨hp, hf, Nat.le_refl _⟩
  · exact ⟨hp, hf, Nat.le_refl _⟩
  · exact ⟨hp, hf, Nat.le_refl _⟩
  · exact ⟨hp, fun _ => by simp only; omega, Nat.le_refl _⟩
  · exact ⟨hp, hf, Nat.le_refl _⟩
  · exact ⟨hp, hf, Nat.le_refl _⟩
  · rename_i hfin _ _ _ hseq _
    have hfe : f = r.t.length := by omega
    refine ⟨?_, fun h => absurd h (by simpa using hfin), by simp⟩
    obtain ⟨s, hs⟩ := hp
    subst hfe
    simp only [hx, Int.toNat_natCast]
    rw [List.drop_take, ← hs, List.drop_left]
    exact (List.prefix_append_right_inj _).2 (List.take_prefix _ _)

theorem prefix_all {a t : List UInt8} (h : a <+: t) (hl : t.length ≤ a.length) : a = t := h.eq_of_length (by have := h.length_le; omega)

theorem recv_text (b : Nat) (r : RS) (x : BX) (hok : rok b r x) (w : World) (hm : Mem (blocksOf (rmem b r x)) w (rmem b r x) w) :
    Calls Try.prog 11 [.pointer (some ⟨b, 0, none⟩)].toArray w fun e w' => ∃ _ : Unit, True ∧ e = .returned (.tuple #[str (if r.fin = true then r.t else []), .int .i64 (if r.fin = true then 0 else 10)]) ∧ Post w (blocksOf (rmem b r x)) (rmem b r x) w' := by
  cases hf : r.fin
  · refine (recv_text_no b r x w (hm.blk (i := 0) rfl) hf).mono fun e w' ⟨he, hk⟩ => ⟨(), trivial, ?_, hk.weak, hm.same hk⟩
    simpa [hf] using he
  · refine (recv_text_yes b r x hok hf w hm).mono fun e w' ⟨_, _, he, hp⟩ => ⟨(), trivial, ?_, hp⟩
    simpa [hf] using he

/-- what TransferPrefix does -/
theorem prefix_walk (id : B 32) (t : List UInt8) (a : Option Addr) (len cap : Nat) (w : World) (ht : t.length ≤ 9223372036854775807) (hl : len ≤ 9223372036854775807) (hs : SlRd Try.prog w 7 31 35 a len) :
    Calls Try.prog 3 [.agg (flat [id.seg]), str t, .slice a len cap].toArray w fun e w' => e = .returned (.bool true) ∧ Keeps none1 w w' := by
  by_cases h1 : 300 < t.length
  · skip
    refine SL.calls_ok (n := 100) (W := SL.none1) (m := []) Try.func3 rfl Try.ntmps3 rfl (SL.Mem.nil _ _ _) ?_
    simp only [SL.enum, Nat.reduceAdd]
    refine SL.Ok.seq fun K1 hK1 => ?_
    refine SL.Ok.region ?_
    refine SL.Ok.eff rfl (SL.Eff.box _ rfl rfl rfl rfl rfl) ?_
    intro b3 _
    try simp only [SL.setN, SL.putD, SL.selM, SL.nth, List.cons_append, List.nil_append]
    refine SL.Ok.op rfl rfl rfl (SL.Pure.assign rfl rfl) ?_
    refine SL.Ok.nil ?_
    refine SL.Ok.normThen ?_
    refine hK1 _ _ ?_
    refine SL.Ok.seq fun K2 hK2 => ?_
    refine SL.Ok.seq fun K3 hK3 => ?_
    refine SL.Ok.region ?_
    refine SL.Ok.eff rfl (SL.Eff.callV rfl rfl (by kernel_rfl) rfl rfl (fun w hM hK => known_c w)) ?_
    intro _ _
    try simp only [SL.setN, SL.putD, SL.selM, SL.nth, List.cons_append, List.nil_append]
    refine SL.Ok.op rfl rfl rfl (SL.Pure.not rfl rfl) ?_
    refine SL.Ok.op rfl rfl rfl (SL.Pure.move rfl rfl) ?_
    refine SL.Ok.setF (d := 16) rfl (rfl) ?_
    refine SL.Ok.opG rfl rfl rfl rfl rfl rfl rfl (SL.Pure.move rfl rfl) ?_
    refine SL.Ok.opG rfl rfl rfl rfl rfl rfl rfl (SL.Pure.lenS rfl rfl rfl Try.underlying9) ?_
    refine SL.Ok.opG rfl rfl rfl rfl rfl rfl rfl (SL.Pure.gtr rfl rfl rfl) ?_
    refine SL.Ok.op rfl rfl rfl (SL.Pure.pickF rfl rfl rfl) ?_
    refine SL.Ok.op rfl rfl rfl (SL.Pure.move rfl rfl) ?_
    refine SL.Ok.setT (d := 21) rfl (by simp; omega) ?_
    refine SL.Ok.opS rfl rfl rfl rfl rfl rfl rfl ?_
    refine SL.Ok.opS rfl rfl rfl rfl rfl rfl rfl ?_
    refine SL.Ok.opS rfl rfl rfl rfl rfl rfl rfl ?_
    refine SL.Ok.op rfl rfl rfl (SL.Pure.pickT rfl rfl rfl) ?_
    refine SL.Ok.nil ?_
    refine SL.Ok.normThen ?_
    refine hK3 _ _ ?_
    refine SL.Ok.condT rfl ?_
    refine SL.Ok.seq fun K4 hK4 => ?_
    refine SL.Ok.region ?_
    refine SL.Ok.eff rfl (SL.Eff.callV rfl rfl (by kernel_rfl) rfl rfl (fun w hM hK => known_c w)) ?_
    intro _ _
    try simp only [SL.setN, SL.putD, SL.selM, SL.nth, List.cons_append, List.nil_append]
    refine SL.Ok.op rfl rfl rfl (SL.Pure.assign rfl rfl) ?_
    refine SL.Ok.nil ?_
    refine SL.Ok.normThen ?_
    refine hK4 _ _ ?_
    refine SL.Ok.ret (SL.retThen SL.retHere) (SL.resL rfl (.cons (.tmp rfl) .nil) rfl) (fun w' hM' hK' => ?_)
    exact ⟨rfl, hK'⟩
  by_cases h2 : 30 < len
  · skip
    refine SL.calls_ok (n := 100) (W := SL.none1) (m := []) Try.func3 rfl Try.ntmps3 rfl (SL.Mem.nil _ _ _) ?_
    simp only [SL.enum, Nat.reduceAdd]
    refine SL.Ok.seq fun K1 hK1 => ?_
    refine SL.Ok.region ?_
    refine SL.Ok.eff rfl (SL.Eff.box _ rfl rfl rfl rfl rfl) ?_
    intro b3 _
    try simp only [SL.setN, SL.putD, SL.selM, SL.nth, List.cons_append, List.nil_append]
    refine SL.Ok.op rfl rfl rfl (SL.Pure.assign rfl rfl) ?_
    refine SL.Ok.nil ?_
    refine SL.Ok.normThen ?_
    refine hK1 _ _ ?_
    refine SL.Ok.seq fun K2 hK2 => ?_
    refine SL.Ok.seq fun K3 hK3 => ?_
    refine SL.Ok.region ?_
    refine SL.Ok.eff rfl (SL.Eff.callV rfl rfl (by kernel_rfl) rfl rfl (fun w hM hK => known_c w)) ?_
    intro _ _
    try simp only [SL.setN, SL.putD, SL.selM, SL.nth, List.cons_append, List.nil_append]
    refine SL.Ok.op rfl rfl rfl (SL.Pure.not rfl rfl) ?_
    refine SL.Ok.op rfl rfl rfl (SL.Pure.move rfl rfl) ?_
    refine SL.Ok.setF (d := 16) rfl (rfl) ?_
    refine SL.Ok.opG rfl rfl rfl rfl rfl rfl rfl (SL.Pure.move rfl rfl) ?_
    refine SL.Ok.opG rfl rfl rfl rfl rfl rfl rfl (SL.Pure.lenS rfl rfl rfl Try.underlying9) ?_
    refine SL.Ok.opG rfl rfl rfl rfl rfl rfl rfl (SL.Pure.gtr rfl rfl rfl) ?_
    refine SL.Ok.op rfl rfl rfl (SL.Pure.pickF rfl rfl rfl) ?_
    refine SL.Ok.op rfl rfl rfl (SL.Pure.move rfl rfl) ?_
    refine SL.Ok.setF (d := 21) rfl (by simp; omega) ?_
    refine SL.Ok.opG rfl rfl rfl rfl rfl rfl rfl (SL.Pure.move rfl rfl) ?_
    refine SL.Ok.opG rfl rfl rfl rfl rfl rfl rfl (SL.Pure.lenSl rfl rfl rfl Try.underlying24) ?_
    refine SL.Ok.opG rfl rfl rfl rfl rfl rfl rfl (SL.Pure.gtr rfl rfl rfl) ?_
    refine SL.Ok.op rfl rfl rfl (SL.Pure.pickF rfl rfl rfl) ?_
    refine SL.Ok.nil ?_
    refine SL.Ok.normThen ?_
    refine hK3 _ _ ?_
    refine SL.Ok.condT' rfl (by simp; omega) ?_
    refine SL.Ok.seq fun K4 hK4 => ?_
    refine SL.Ok.region ?_
    refine SL.Ok.eff rfl (SL.Eff.callV rfl rfl (by kernel_rfl) rfl rfl (fun w hM hK => known_c w)) ?_
    intro _ _
    try simp only [SL.setN, SL.putD, SL.selM, SL.nth, List.cons_append, List.nil_append]
    refine SL.Ok.op rfl rfl rfl (SL.Pure.assign rfl rfl) ?_
    refine SL.Ok.nil ?_
    refine SL.Ok.normThen ?_
    refine hK4 _ _ ?_
    refine SL.Ok.ret (SL.retThen SL.retHere) (SL.resL rfl (.cons (.tmp rfl) .nil) rfl) (fun w' hM' hK' => ?_)
    exact ⟨rfl, hK'⟩
  refine SL.calls_ok (n := 100) (W := SL.none1) (m := []) Try.func3 rfl Try.ntmps3 rfl (SL.Mem.nil _ _ _) ?_
  simp only [SL.enum, Nat.reduceAdd]
  refine SL.Ok.seq fun K1 hK1 => ?_
  refine SL.Ok.region ?_
  refine SL.Ok.eff rfl (SL.Eff.box _ rfl rfl rfl rfl rfl) ?_
  intro b3 _
  try simp only [SL.setN, SL.putD, SL.selM, SL.nth, List.cons_append, List.nil_append]
  refine SL.Ok.op rfl rfl rfl (SL.Pure.assign rfl rfl) ?_
  refine SL.Ok.nil ?_
  refine SL.Ok.normThen ?_
  refine hK1 _ _ ?_
  refine SL.Ok.seq fun K2 hK2 => ?_
  refine SL.Ok.seq fun K3 hK3 => ?_
  refine SL.Ok.region ?_
  refine SL.Ok.eff rfl (SL.Eff.callV rfl rfl (by kernel_rfl) rfl rfl (fun w hM hK => known_c w)) ?_
  intro _ _
  try simp only [SL.setN, SL.putD, SL.selM, SL.nth, List.cons_append, List.nil_append]
  refine SL.Ok.op rfl rfl rfl (SL.Pure.not rfl rfl) ?_
  refine SL.Ok.op rfl rfl rfl (SL.Pure.move rfl rfl) ?_
  refine SL.Ok.setF (d := 16) rfl (rfl) ?_
  refine SL.Ok.opG rfl rfl rfl rfl rfl rfl rfl (SL.Pure.move rfl rfl) ?_
  refine SL.Ok.opG rfl rfl rfl rfl rfl rfl rfl (SL.Pure.lenS rfl rfl rfl Try.underlying9) ?_
  refine SL.Ok.opG rfl rfl rfl rfl rfl rfl rfl (SL.Pure.gtr rfl rfl rfl) ?_
  refine SL.Ok.op rfl rfl rfl (SL.Pure.pickF rfl rfl rfl) ?_
  refine SL.Ok.op rfl rfl rfl (SL.Pure.move rfl rfl) ?_
  refine SL.Ok.setF (d := 21) rfl (by simp; omega) ?_
  refine SL.Ok.opG rfl rfl rfl rfl rfl rfl rfl (SL.Pure.move rfl rfl) ?_
  refine SL.Ok.opG rfl rfl rfl rfl rfl rfl rfl (SL.Pure.lenSl rfl rfl rfl Try.underlying24) ?_
  refine SL.Ok.opG rfl rfl rfl rfl rfl rfl rfl (SL.Pure.gtr rfl rfl rfl) ?_
  refine SL.Ok.op rfl rfl rfl (SL.Pure.pickF rfl rfl rfl) ?_
  refine SL.Ok.nil ?_
  refine SL.Ok.normThen ?_
  refine hK3 _ _ ?_
  refine SL.Ok.condF' rfl (by simp; omega) ?_
  refine SL.Ok.skip' ?_
  refine SL.Ok.normThen ?_
  refine hK2 _ _ ?_
  refine SL.Ok.seq fun K4 hK4 => ?_
  refine SL.Ok.region ?_
  refine SL.Ok.op rfl rfl rfl (by first | exact SL.Pure.loadA 0 (k := 32) rfl rfl rfl (by kernel_rfl) rfl (by kernel_rfl)) ?_
  refine SL.Ok.op rfl rfl rfl (SL.Pure.move rfl rfl) ?_
  refine SL.Ok.op rfl rfl rfl (SL.Pure.lenS rfl rfl rfl Try.underlying9) ?_
  refine SL.Ok.eff rfl (SL.Eff.call [] [0] rfl rfl (by kernel_rfl) rfl rfl rfl rfl (fun w hM hK => newR_ok id t.length w (by omega) (by omega))) ?_
  intro b31 _
  try simp only [SL.setN, SL.putD, SL.selM, SL.nth, List.cons_append, List.nil_append]
  refine SL.Ok.op rfl rfl rfl (SL.Pure.move rfl rfl) ?_
  refine SL.Ok.op rfl rfl rfl (SL.Pure.extract rfl rfl rfl) ?_
  refine SL.Ok.op rfl rfl rfl (SL.Pure.extract rfl rfl rfl) ?_
  refine SL.Ok.op rfl rfl rfl (SL.Pure.assign rfl rfl) ?_
  refine SL.Ok.op rfl rfl rfl (SL.Pure.assign rfl rfl) ?_
  refine SL.Ok.nil ?_
  refine SL.Ok.normThen ?_
  refine hK4 _ _ ?_
  refine SL.Ok.seq fun K5 hK5 => ?_
  refine SL.Ok.seq fun K6 hK6 => ?_
  refine SL.Ok.region ?_
  refine SL.Ok.op rfl rfl rfl (SL.Pure.move rfl rfl) ?_
  refine SL.Ok.op rfl rfl rfl (SL.Pure.nei rfl rfl rfl) ?_
  refine SL.Ok.nil ?_
  refine SL.Ok.normThen ?_
  refine hK6 _ _ ?_
  refine SL.Ok.condF' rfl (rfl) ?_
  refine SL.Ok.skip' ?_
  refine SL.Ok.normThen ?_
  refine hK5 _ _ ?_
  refine SL.Ok.seq fun K7 hK7 => ?_
  refine SL.Ok.region ?_
  refine SL.Ok.op rfl rfl rfl (SL.Pure.assign rfl rfl) ?_
  refine SL.Ok.nil ?_
  refine SL.Ok.normThen ?_
  refine hK7 _ _ ?_
  refine SL.Ok.seq fun K8 hK8 => ?_
  refine SL.Ok.seq fun K9 hK9 => ?_
  refine SL.Ok.region ?_
  refine SL.Ok.op rfl rfl rfl (SL.Pure.assign rfl rfl) ?_
  refine SL.Ok.nil ?_
  refine SL.Ok.normThen ?_
  refine hK9 _ _ ?_
  refine SL.Ok.block ?_
  refine SL.Ok.loop (X := (Nat × RS × BX)) (φ := fun X => X.1 ≤ len ∧ rinv X.2.1 ∧ rok b31 X.2.1 X.2.2 ∧ X.2.1.size = t.length ∧ X.2.1.t <+: t ∧ (X.2.1.fin = true → X.2.1.size ≤ X.2.1.t.length)) (L := fun X => [(1, str t), (2, .slice a len cap), (7, .pointer (some ⟨b31, 0, none⟩)), (9, .int .i64 X.2.1.t.length), (10, .int .i64 X.1)]) (M := fun X => rmem b31 X.2.1 X.2.2) (μ := fun X => len - X.1) ?_ ?_
  · exact fun _ _ st => ⟨(0, ⟨id, t.length, [], false⟩, ⟨none, none, 0⟩), ⟨Nat.zero_le _, ⟨by simp, by simp; omega, by simp⟩, rok_new .., rfl, List.nil_prefix, by simp⟩, st.to [0, 1] ⟨rfl, rfl, rfl, rfl, rfl, trivial⟩ rfl rfl⟩
  · intro ⟨k, r, x⟩ ⟨hk, hi, hok, hsz, hpre, hfin⟩
    try dsimp only
    refine SL.Ok.seq fun K10 hK10 => ?_
    refine SL.Ok.seq fun K11 hK11 => ?_
    refine SL.Ok.region ?_
    refine SL.Ok.op rfl rfl rfl (SL.Pure.move rfl rfl) ?_
    refine SL.Ok.op rfl rfl rfl (SL.Pure.move rfl rfl) ?_
    refine SL.Ok.op rfl rfl rfl (SL.Pure.lenSl rfl rfl rfl Try.underlying24) ?_
    refine SL.Ok.op rfl rfl rfl (SL.Pure.lss rfl rfl rfl) ?_
    refine SL.Ok.nil ?_
    refine SL.Ok.normThen ?_
    refine hK11 _ _ ?_
    refine SL.Ok.cond rfl (fun hc39 => ?_) (fun hc39 => ?_)
    · skip
      have hkl : k < len := by simpa using hc39
      rcases hs with h0 | ⟨sb, soff, rfl, hsb, E, hE⟩
      · omega
      obtain ⟨hrng, hrd⟩ := hE k hkl
      obtain ⟨v, ci, f, xs, hEk, hvb, hfb, hxl⟩ := rd_rcmd hrd
      rw [hEk] at hrng
      clear hE hrd hEk
      refine SL.Ok.skip' ?_
      refine SL.Ok.normThen ?_
      refine hK10 _ _ ?_
      refine SL.Ok.seq fun K12 hK12 => ?_
      refine SL.Ok.block ?_
      refine SL.Ok.seq fun K13 hK13 => ?_
      refine SL.Ok.region ?_
      refine SL.Ok.op rfl rfl rfl (SL.Pure.move rfl rfl) ?_
      refine SL.Ok.op rfl rfl rfl (SL.Pure.move rfl rfl) ?_
      refine SL.Ok.op rfl rfl rfl (SL.Pure.indexAddrS (sz := 35) rfl rfl rfl Try.underlying24 (by kernel_rfl) (by omega) (by omega) rfl) ?_
      refine SL.Ok.op rfl rfl rfl (SL.Pure.loadOR (k := 35) hrng hsb (fun h => h) rfl rfl (by kernel_rfl) rfl (by kernel_rfl)) ?_
      refine SL.Ok.eff rfl (SL.Eff.alloc [Seg.one (.int .i64 0) rfl, (B.zero 32).seg, Seg.one (.int .i64 0) rfl, Seg.one (str []) rfl] rfl rfl rfl (by kernel_rfl)) ?_
      intro b11 _
      try simp only [SL.setN, SL.putD, SL.selM, SL.nth, List.cons_append, List.nil_append]
      refine SL.Ok.eff rfl (by first | exact SL.Eff.storeG (k := 35) 0 _ rfl rfl rfl rfl rfl rfl (by kernel_rfl) rfl rfl | exact SL.Eff.storeG (k := 35) 1 _ rfl rfl rfl rfl rfl rfl (by kernel_rfl) rfl rfl | exact SL.Eff.storeG (k := 35) 2 _ rfl rfl rfl rfl rfl rfl (by kernel_rfl) rfl rfl) ?_
      intro _ _
      try simp only [SL.setN, SL.putD, SL.selM, SL.nth, List.cons_append, List.nil_append]
      refine SL.Ok.nil ?_
      refine SL.Ok.normThen ?_
      refine hK13 _ _ ?_
      refine SL.Ok.seq fun K14 hK14 => ?_
      refine SL.Ok.join (X := Int) (φ := fun f' => 0 ≤ f' ∧ f' ≤ t.length) (L := fun f' => [(1, str t), (2, .slice (some ⟨sb, soff, none⟩) len cap), (7, .pointer (some ⟨b31, 0, none⟩)), (9, .int .i64 r.t.length), (10, .int .i64 k), (11, .pointer (some ⟨b11, 0, none⟩))]) (M := fun f' => .blk b11 (.cells (flat (rcmd v ci f' xs)) 31 (0, 0)) :: rmem b31 r x) ?_ (fun hJr11 => ?_)
      · intro f' ⟨hf0, hf1⟩
        try dsimp only
        refine SL.Ok.normThen ?_
        refine hK14 _ _ ?_
        refine SL.Ok.seq fun K15 hK15 => ?_
        refine SL.Ok.region ?_
        refine SL.Ok.op rfl rfl rfl (SL.Pure.move rfl rfl) ?_
        refine SL.Ok.op rfl rfl rfl (SL.Pure.fieldAddr (k := 33) rfl rfl (by kernel_rfl) rfl) ?_
        refine SL.Ok.op rfl rfl rfl (by first | exact SL.Pure.load1 0 rfl rfl rfl rfl (by kernel_rfl) | exact SL.Pure.load1 1 rfl rfl rfl rfl (by kernel_rfl) | exact SL.Pure.load1 2 rfl rfl rfl rfl (by kernel_rfl)) ?_
        refine SL.Ok.op rfl rfl rfl (SL.Pure.move rfl rfl) ?_
        refine SL.Ok.op rfl rfl rfl (SL.Pure.lenS rfl rfl rfl Try.underlying9) ?_
        refine SL.Ok.op rfl rfl rfl (SL.Pure.fieldAddr (k := 33) rfl rfl (by kernel_rfl) rfl) ?_
        refine SL.Ok.op rfl rfl rfl (by first | exact SL.Pure.load1 0 rfl rfl rfl rfl (by kernel_rfl) | exact SL.Pure.load1 1 rfl rfl rfl rfl (by kernel_rfl) | exact SL.Pure.load1 2 rfl rfl rfl rfl (by kernel_rfl)) ?_
        refine SL.Ok.op rfl rfl rfl (SL.Pure.fieldAddr (k := 34) rfl rfl (by kernel_rfl) rfl) ?_
        refine SL.Ok.op rfl rfl rfl (by first | exact SL.Pure.load1 0 rfl rfl rfl rfl (by kernel_rfl) | exact SL.Pure.load1 1 rfl rfl rfl rfl (by kernel_rfl) | exact SL.Pure.load1 2 rfl rfl rfl rfl (by kernel_rfl)) ?_
        refine SL.Ok.op rfl rfl rfl (SL.Pure.lenS rfl rfl rfl Try.underlying9) ?_
        refine SL.Ok.op rfl rfl rfl (SL.Pure.addI rfl rfl rfl rfl (by omega) (by omega)) ?_
        refine SL.Ok.op rfl rfl rfl (SL.Pure.min2 rfl rfl rfl) ?_
        refine SL.Ok.op rfl rfl rfl (SL.Pure.sliceS rfl rfl Try.underlying9 rfl rfl (by omega) (by omega) (by omega)) ?_
        refine SL.Ok.op rfl rfl rfl (SL.Pure.fieldAddr (k := 34) rfl rfl (by kernel_rfl) rfl) ?_
        refine SL.Ok.eff rfl (by first | exact SL.Eff.storeG (k := 1) 0 [SL.Seg.one _ rfl] rfl rfl rfl rfl rfl rfl (by kernel_rfl) rfl rfl | exact SL.Eff.storeG (k := 1) 1 [SL.Seg.one _ rfl] rfl rfl rfl rfl rfl rfl (by kernel_rfl) rfl rfl | exact SL.Eff.storeG (k := 1) 2 [SL.Seg.one _ rfl] rfl rfl rfl rfl rfl rfl (by kernel_rfl) rfl rfl) ?_
        intro _ _
        try simp only [SL.setN, SL.putD, SL.selM, SL.nth, List.cons_append, List.nil_append]
        refine SL.Ok.nil ?_
        refine SL.Ok.normThen ?_
        refine hK15 _ _ ?_
        refine SL.Ok.seq fun K16 hK16 => ?_
        refine SL.Ok.region ?_
        refine SL.Ok.op rfl rfl rfl (SL.Pure.move rfl rfl) ?_
        refine SL.Ok.op rfl rfl rfl (by first | exact SL.Pure.loadA 0 (k := 35) rfl rfl rfl (by kernel_rfl) rfl (by kernel_rfl) | exact SL.Pure.loadA 1 (k := 35) rfl rfl rfl (by kernel_rfl) rfl (by kernel_rfl) | exact SL.Pure.loadA 2 (k := 35) rfl rfl rfl (by kernel_rfl) rfl (by kernel_rfl)) ?_
        refine SL.Ok.eff rfl (SL.Eff.callV rfl rfl (by kernel_rfl) rfl rfl (fun w hM hK => own_c v ci f' _ w)) ?_
        intro _ _
        try simp only [SL.setN, SL.putD, SL.selM, SL.nth, List.cons_append, List.nil_append]
        refine SL.Ok.eff rfl (SL.Eff.call [1, 2] [0] rfl rfl (by kernel_rfl) rfl rfl rfl rfl (fun w hM hK => hear_c b31 r x hok hi v ci f' _ w (hM.sel [1, 2] rfl).own)) ?_
        intro y hy
        try simp only [SL.setN, SL.putD, SL.selM, SL.nth, List.cons_append, List.nil_append]
        refine SL.Ok.nil ?_
        obtain ⟨hp1, hp2, hp3⟩ := hear_pre hi hsz hpre hfin v ci f' xs.length hf0 hf1
        obtain ⟨hi2, hid2, hsz2⟩ := hear_inv hi v ci f' ((t.take (min (t.length : Int) (f' + xs.length)).toNat).drop f'.toNat)
        generalize hear r v ci f' ((t.take (min (t.length : Int) (f' + xs.length)).toNat).drop f'.toNat) = R at *
        obtain ⟨r2, k2⟩ := R
        have hp4 := hp1.length_le
        simp only at *
        refine SL.Ok.normThen ?_
        refine hK16 _ _ ?_
        refine SL.Ok.seq fun K17 hK17 => ?_
        refine SL.Ok.seq fun K18 hK18 => ?_
        refine SL.Ok.region ?_
        refine SL.Ok.op rfl rfl rfl (SL.Pure.move rfl rfl) ?_
        refine SL.Ok.eff rfl (SL.Eff.callV rfl rfl (by kernel_rfl) rfl rfl (fun w hM hK => recv_from b31 r2 y w (hM.blk (i := 0) rfl))) ?_
        intro _ _
        try simp only [SL.setN, SL.putD, SL.selM, SL.nth, List.cons_append, List.nil_append]
        refine SL.Ok.op rfl rfl rfl (SL.Pure.move rfl rfl) ?_
        refine SL.Ok.op rfl rfl rfl (SL.Pure.lss rfl rfl rfl) ?_
        refine SL.Ok.op rfl rfl rfl (SL.Pure.move rfl rfl) ?_
        refine SL.Ok.setF (d := 79) rfl (by simp; omega) ?_
        refine SL.Ok.opG rfl rfl rfl rfl rfl rfl rfl (SL.Pure.move rfl rfl) ?_
        refine SL.Ok.effG rfl rfl rfl rfl rfl (SL.Eff.callV rfl rfl (by kernel_rfl) rfl rfl (fun w hM hK => recv_from b31 r2 y w (hM.blk (i := 0) rfl))) ?_
        intro _ _
        simp only [SL.setN, SL.putD, SL.selM, SL.nth, List.cons_append, List.nil_append]
        refine SL.Ok.opG rfl rfl rfl rfl rfl rfl rfl (SL.Pure.move rfl rfl) ?_
        refine SL.Ok.opG rfl rfl rfl rfl rfl rfl rfl (SL.Pure.lenS rfl rfl rfl Try.underlying9) ?_
        refine SL.Ok.opG rfl rfl rfl rfl rfl rfl rfl (SL.Pure.gtr rfl rfl rfl) ?_
        refine SL.Ok.op rfl rfl rfl (SL.Pure.pickF rfl rfl rfl) ?_
        refine SL.Ok.nil ?_
        refine SL.Ok.normThen ?_
        refine hK18 _ _ ?_
        refine SL.Ok.condF' rfl (by simp; omega) ?_
        refine SL.Ok.skip' ?_
        refine SL.Ok.normThen ?_
        refine hK17 _ _ ?_
        refine SL.Ok.region ?_
        refine SL.Ok.op rfl rfl rfl (SL.Pure.move rfl rfl) ?_
        refine SL.Ok.eff rfl (SL.Eff.callV rfl rfl (by kernel_rfl) rfl rfl (fun w hM hK => recv_from b31 r2 y w (hM.blk (i := 0) rfl))) ?_
        intro _ _
        try simp only [SL.setN, SL.putD, SL.selM, SL.nth, List.cons_append, List.nil_append]
        refine SL.Ok.op rfl rfl rfl (SL.Pure.assign rfl rfl) ?_
        refine SL.Ok.nil ?_
        refine SL.Ok.normBlock ?_
        refine SL.Ok.normThen ?_
        refine hK12 _ _ ?_
        refine SL.Ok.region ?_
        refine SL.Ok.op rfl rfl rfl (SL.Pure.move rfl rfl) ?_
        refine SL.Ok.op rfl rfl rfl (SL.Pure.addI rfl rfl rfl rfl (by omega) (by omega)) ?_
        refine SL.Ok.op rfl rfl rfl (SL.Pure.assign rfl rfl) ?_
        refine SL.Ok.nil ?_
        refine SL.Ok.normThen ?_
        exact SL.Ok.round (k + 1, r2, y) [0, 1] ⟨by simp only; omega, hi2, hy, by simp only; omega, hp1, hp2⟩ (by simp; omega) ⟨rfl, rfl, rfl, rfl, rfl, trivial⟩ rfl rfl
      refine SL.Ok.seq fun K19 hK19 => ?_
      refine SL.Ok.region ?_
      refine SL.Ok.op rfl rfl rfl (SL.Pure.fieldAddr (k := 33) rfl rfl (by kernel_rfl) rfl) ?_
      refine SL.Ok.op rfl rfl rfl (by first | exact SL.Pure.load1 0 rfl rfl rfl rfl (by kernel_rfl) | exact SL.Pure.load1 1 rfl rfl rfl rfl (by kernel_rfl) | exact SL.Pure.load1 2 rfl rfl rfl rfl (by kernel_rfl)) ?_
      refine SL.Ok.op rfl rfl rfl (SL.Pure.lss rfl rfl rfl) ?_
      refine SL.Ok.op rfl rfl rfl (SL.Pure.move rfl rfl) ?_
      refine SL.Ok.split (d := 49) rfl (fun hg49 => ?_) (fun hg49 => ?_)
      · skip
        refine SL.Ok.opS rfl rfl rfl rfl rfl rfl rfl ?_
        refine SL.Ok.opS rfl rfl rfl rfl rfl rfl rfl ?_
        refine SL.Ok.opS rfl rfl rfl rfl rfl rfl rfl ?_
        refine SL.Ok.opS rfl rfl rfl rfl rfl rfl rfl ?_
        refine SL.Ok.opS rfl rfl rfl rfl rfl rfl rfl ?_
        refine SL.Ok.op rfl rfl rfl (SL.Pure.pickT rfl rfl rfl) ?_
        refine SL.Ok.nil ?_
        refine SL.Ok.normThen ?_
        refine hK19 _ _ ?_
        refine SL.Ok.condT rfl ?_
        refine SL.Ok.region ?_
        refine SL.Ok.op rfl rfl rfl (SL.Pure.fieldAddr (k := 33) rfl rfl (by kernel_rfl) rfl) ?_
        refine SL.Ok.eff rfl (by first | exact SL.Eff.storeG (k := 1) 0 [SL.Seg.one _ rfl] rfl rfl rfl rfl rfl rfl (by kernel_rfl) rfl rfl | exact SL.Eff.storeG (k := 1) 1 [SL.Seg.one _ rfl] rfl rfl rfl rfl rfl rfl (by kernel_rfl) rfl rfl | exact SL.Eff.storeG (k := 1) 2 [SL.Seg.one _ rfl] rfl rfl rfl rfl rfl rfl (by kernel_rfl) rfl rfl) ?_
        intro _ _
        try simp only [SL.setN, SL.putD, SL.selM, SL.nth, List.cons_append, List.nil_append]
        refine SL.Ok.nil ?_
        exact SL.Ok.via (hJr11 0 (by omega)) [0, 1, 2] ⟨rfl, rfl, rfl, rfl, rfl, rfl, trivial⟩ rfl rfl
      · skip
        refine SL.Ok.opG rfl rfl rfl rfl rfl rfl rfl (SL.Pure.fieldAddr (k := 33) rfl rfl (by kernel_rfl) rfl) ?_
        refine SL.Ok.opG rfl rfl rfl rfl rfl rfl rfl (by first | exact SL.Pure.load1 0 rfl rfl rfl rfl (by kernel_rfl) | exact SL.Pure.load1 1 rfl rfl rfl rfl (by kernel_rfl) | exact SL.Pure.load1 2 rfl rfl rfl rfl (by kernel_rfl)) ?_
        refine SL.Ok.opG rfl rfl rfl rfl rfl rfl rfl (SL.Pure.move rfl rfl) ?_
        refine SL.Ok.opG rfl rfl rfl rfl rfl rfl rfl (SL.Pure.lenS rfl rfl rfl Try.underlying9) ?_
        refine SL.Ok.opG rfl rfl rfl rfl rfl rfl rfl (SL.Pure.gtr rfl rfl rfl) ?_
        refine SL.Ok.op rfl rfl rfl (SL.Pure.pickF rfl rfl rfl) ?_
        refine SL.Ok.nil ?_
        refine SL.Ok.normThen ?_
        refine hK19 _ _ ?_
        refine SL.Ok.cond rfl (fun hc55 => ?_) (fun hc55 => ?_)
        · skip
          refine SL.Ok.region ?_
          refine SL.Ok.op rfl rfl rfl (SL.Pure.fieldAddr (k := 33) rfl rfl (by kernel_rfl) rfl) ?_
          refine SL.Ok.eff rfl (by first | exact SL.Eff.storeG (k := 1) 0 [SL.Seg.one _ rfl] rfl rfl rfl rfl rfl rfl (by kernel_rfl) rfl rfl | exact SL.Eff.storeG (k := 1) 1 [SL.Seg.one _ rfl] rfl rfl rfl rfl rfl rfl (by kernel_rfl) rfl rfl | exact SL.Eff.storeG (k := 1) 2 [SL.Seg.one _ rfl] rfl rfl rfl rfl rfl rfl (by kernel_rfl) rfl rfl) ?_
          intro _ _
          try simp only [SL.setN, SL.putD, SL.selM, SL.nth, List.cons_append, List.nil_append]
          refine SL.Ok.nil ?_
          exact SL.Ok.via (hJr11 0 (by omega)) [0, 1, 2] ⟨rfl, rfl, rfl, rfl, rfl, rfl, trivial⟩ rfl rfl
        · skip
          refine SL.Ok.skip' ?_
          exact SL.Ok.via (hJr11 f (by simp at hg49 hc55; omega)) [0, 1, 2] ⟨rfl, rfl, rfl, rfl, rfl, rfl, trivial⟩ rfl rfl
    · skip
      have hkl : k = len := by simp at hc39; omega
      refine SL.Ok.exit ?_
      refine SL.Ok.exThen ?_
      refine SL.Ok.exThen ?_
      refine SL.Ok.exHere ?_
      refine SL.Ok.normThen ?_
      refine hK8 _ _ ?_
      refine SL.Ok.seq fun K20 hK20 => ?_
      refine SL.Ok.region ?_
      refine SL.Ok.op rfl rfl rfl (SL.Pure.move rfl rfl) ?_
      refine SL.Ok.eff rfl (SL.Eff.call [0, 1] [] rfl rfl (by kernel_rfl) rfl rfl rfl rfl (fun w hM hK => recv_text b31 r x hok w (hM.sel [0, 1] rfl).own)) ?_
      intro _ _
      try simp only [SL.setN, SL.putD, SL.selM, SL.nth, List.cons_append, List.nil_append]
      refine SL.Ok.op rfl rfl rfl (SL.Pure.move rfl rfl) ?_
      refine SL.Ok.op rfl rfl rfl (SL.Pure.extract rfl rfl rfl) ?_
      refine SL.Ok.op rfl rfl rfl (SL.Pure.extract rfl rfl rfl) ?_
      refine SL.Ok.op rfl rfl rfl (SL.Pure.assign rfl rfl) ?_
      refine SL.Ok.op rfl rfl rfl (SL.Pure.assign rfl rfl) ?_
      refine SL.Ok.nil ?_
      refine SL.Ok.normThen ?_
      refine hK20 _ _ ?_
      refine SL.Ok.seq fun K21 hK21 => ?_
      refine SL.Ok.region ?_
      refine SL.Ok.op rfl rfl rfl (SL.Pure.move rfl rfl) ?_
      refine SL.Ok.op rfl rfl rfl (SL.Pure.nei rfl rfl rfl) ?_
      refine SL.Ok.op rfl rfl rfl (SL.Pure.move rfl rfl) ?_
      refine SL.Ok.split (d := 95) rfl (fun hg95 => ?_) (fun hg95 => ?_)
      · have hnf : r.fin = false := by cases hr : r.fin <;> simp_all
        refine SL.Ok.opS rfl rfl rfl rfl rfl rfl rfl ?_
        refine SL.Ok.opS rfl rfl rfl rfl rfl rfl rfl ?_
        refine SL.Ok.opS rfl rfl rfl rfl rfl rfl rfl ?_
        refine SL.Ok.op rfl rfl rfl (SL.Pure.pickT rfl rfl rfl) ?_
        refine SL.Ok.op rfl rfl rfl (SL.Pure.assign rfl rfl) ?_
        refine SL.Ok.nil ?_
        refine SL.Ok.normThen ?_
        refine hK21 _ _ ?_
        refine SL.Ok.ret SL.retHere (SL.resL rfl (.cons (.tmp rfl) .nil) rfl) (fun w' hM' hK' => ?_)
        first | exact ⟨rfl, hK'⟩ | exact ⟨by simp [SL.retv, hyf, hrt], hK'⟩
      · obtain ⟨hyf, hrt⟩ : r.fin = true ∧ r.t = t := by (have hyf : r.fin = true := by cases hr : r.fin <;> simp_all); exact ⟨hyf, prefix_all hpre (by have e1 := hfin hyf; have e2 := hsz; simp only at e1 e2; omega)⟩
        refine SL.Ok.opG rfl rfl rfl rfl rfl rfl rfl (SL.Pure.move rfl rfl) ?_
        refine SL.Ok.opG rfl rfl rfl rfl rfl rfl rfl (SL.Pure.move rfl rfl) ?_
        refine SL.Ok.opG rfl rfl rfl rfl rfl rfl rfl (SL.Pure.eqS rfl rfl rfl) ?_
        refine SL.Ok.op rfl rfl rfl (SL.Pure.pickF rfl rfl rfl) ?_
        refine SL.Ok.op rfl rfl rfl (SL.Pure.assign rfl rfl) ?_
        refine SL.Ok.nil ?_
        refine SL.Ok.normThen ?_
        refine hK21 _ _ ?_
        refine SL.Ok.ret SL.retHere (SL.resL rfl (.cons (.tmp rfl) .nil) rfl) (fun w' hM' hK' => ?_)
        first | exact ⟨rfl, hK'⟩ | exact ⟨by simp [SL.retv, hyf, hrt], hK'⟩

end Go.Proofs.Ytdlemfjdabnpcaa
