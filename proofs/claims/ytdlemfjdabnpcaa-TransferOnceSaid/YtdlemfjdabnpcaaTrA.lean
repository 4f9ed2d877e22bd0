/- The law TransferOnce: its walk. -/
import Derived.Test.YtdlemfjdabnpcaaTr9
namespace Go.Proofs.Ytdlemfjdabnpcaa
open Go.SL Go.RowKit
set_option linter.unusedVariables false
set_option linter.unusedSimpArgs false

theorem range_sub {w : World} {b off : Nat} {q : List Seg} (p : List Seg) (r : List Seg) {k : Nat} (hk : width p = k) (h : w.rangeAt b off (flat (p ++ (q ++ r))).toList) : w.rangeAt b (off + k) (flat q).toList := by
  subst hk
  intro j u hj
  have hl : (flat p).toList.length = width p := by rw [Array.length_toList, flat_size]
  have hjq : j < (flat q).toList.length := (List.getElem?_eq_some_iff.1 hj).1
  have := h (width p + j) u (by
    rw [flat_append, flat_append, Array.toList_append, Array.toList_append, List.getElem?_append_right (by omega), hl, Nat.add_sub_cancel_left, List.getElem?_append_left hjq]
    exact hj)
  rw [Nat.add_assoc]
  exact this

theorem rd_att {g : Nat} {w : World} {ss : List Seg} (h : Rd Try.prog w (g + 4) 52 ss) : ∃ c a v i f x, ss = Seg.one (.int .u16 c) rfl :: Seg.one (.int .u8 a) rfl :: rcmd v i f x ∧ (0 ≤ c ∧ c ≤ 65535) ∧ (0 ≤ a ∧ a ≤ 255) ∧ (-9223372036854775808 ≤ v ∧ v ≤ 9223372036854775807) ∧ (-9223372036854775808 ≤ f ∧ f ≤ 9223372036854775807) ∧ x.length ≤ 140737488351232 := by
  unfold Rd at h
  simp only [Try.underlying52, RdL] at h
  obtain ⟨p1, q1, rfl, h1, p2, q2, rfl, h2, p3, q3, rfl, h3, rfl⟩ := h
  simp only [Rd, Try.underlying48] at h1
  simp only [Rd, Try.underlying5] at h2
  obtain ⟨c, rfl, hc⟩ := h1
  obtain ⟨a, rfl, ha⟩ := h2
  obtain ⟨v, i, f, x, rfl, hv, hf, hx⟩ := rd_rcmd h3
  exact ⟨c, a, v, i, f, x, rfl, bounds_u16 hc, bounds_u8 ha, hv, hf, hx⟩

set_option maxHeartbeats 4000000 in
theorem once_walk (id : B 32) (t : List UInt8) (n : Int) (a : Option Addr) (len cap : Nat) (w : World) (hn : (Lit.int .u16 n).wf = true) (hl : len ≤ 9223372036854775807) (hs : SlRd Try.prog w 7 52 37 a len) (ht : t.length ≤ 9223372036854775807) :
    Calls Try.prog 5 [.agg (flat [id.seg]), str t, .int .u16 n, .slice a len cap].toArray w fun e w' => e = .returned (.bool true) ∧ Keeps none1 w w' := by
  have hn' := bounds_u16 hn
  by_cases h1 : 300 < t.length
  · skip
    refine SL.calls_ok (n := 176) (W := SL.none1) (m := []) Try.func5 rfl Try.ntmps5 rfl (SL.Mem.nil _ _ _) ?_
    simp only [SL.enum, Nat.reduceAdd]
    refine SL.Ok.seq fun K1 hK1 => ?_
    refine SL.Ok.region ?_
    refine SL.Ok.eff rfl (SL.Eff.box _ rfl rfl rfl rfl rfl) ?_
    intro b4 _
    try simp only [SL.setN, SL.putD, SL.selM, SL.nth, List.cons_append, List.nil_append]
    refine SL.Ok.op rfl rfl rfl (SL.Pure.assign rfl rfl) ?_
    refine SL.Ok.nil ?_
    refine SL.Ok.normThen ?_
    refine hK1 _ _ ?_
    refine SL.Ok.seq fun K2 hK2 => ?_
    refine SL.Ok.seq fun K3 hK3 => ?_
    refine SL.Ok.region ?_
    refine SL.Ok.eff rfl (SL.Eff.callV rfl rfl (by kernel_rfl) rfl rfl (fun w hM hK => known_c w)) ?_
    intro _ _
    try simp only [SL.setN, SL.putD, SL.selM, SL.nth, List.cons_append, List.nil_append]
    refine SL.Ok.op rfl rfl rfl (SL.Pure.not rfl rfl) ?_
    refine SL.Ok.op rfl rfl rfl (SL.Pure.move rfl rfl) ?_
    refine SL.Ok.setF (d := 25) rfl (rfl) ?_
    refine SL.Ok.opG rfl rfl rfl rfl rfl rfl rfl (SL.Pure.move rfl rfl) ?_
    refine SL.Ok.opG rfl rfl rfl rfl rfl rfl rfl (SL.Pure.lenS rfl rfl rfl Try.underlying9) ?_
    refine SL.Ok.opG rfl rfl rfl rfl rfl rfl rfl (SL.Pure.gtr rfl rfl rfl) ?_
    refine SL.Ok.op rfl rfl rfl (SL.Pure.pickF rfl rfl rfl) ?_
    refine SL.Ok.op rfl rfl rfl (SL.Pure.move rfl rfl) ?_
    refine SL.Ok.setT (d := 30) rfl (by simp; omega) ?_
    refine SL.Ok.opS rfl rfl rfl rfl rfl rfl rfl ?_
    refine SL.Ok.opS rfl rfl rfl rfl rfl rfl rfl ?_
    refine SL.Ok.opS rfl rfl rfl rfl rfl rfl rfl ?_
    refine SL.Ok.op rfl rfl rfl (SL.Pure.pickT rfl rfl rfl) ?_
    refine SL.Ok.nil ?_
    refine SL.Ok.normThen ?_
    refine hK3 _ _ ?_
    refine SL.Ok.condT rfl ?_
    refine SL.Ok.seq fun K4 hK4 => ?_
    refine SL.Ok.region ?_
    refine SL.Ok.eff rfl (SL.Eff.callV rfl rfl (by kernel_rfl) rfl rfl (fun w hM hK => known_c w)) ?_
    intro _ _
    try simp only [SL.setN, SL.putD, SL.selM, SL.nth, List.cons_append, List.nil_append]
    refine SL.Ok.op rfl rfl rfl (SL.Pure.assign rfl rfl) ?_
    refine SL.Ok.nil ?_
    refine SL.Ok.normThen ?_
    refine hK4 _ _ ?_
    refine SL.Ok.ret (SL.retThen SL.retHere) (SL.resL rfl (.cons (.tmp rfl) .nil) rfl) (fun w' hM' hK' => ?_)
    exact ⟨rfl, hK'⟩
  by_cases h2 : 20 < len
  · skip
    refine SL.calls_ok (n := 176) (W := SL.none1) (m := []) Try.func5 rfl Try.ntmps5 rfl (SL.Mem.nil _ _ _) ?_
    simp only [SL.enum, Nat.reduceAdd]
    refine SL.Ok.seq fun K1 hK1 => ?_
    refine SL.Ok.region ?_
    refine SL.Ok.eff rfl (SL.Eff.box _ rfl rfl rfl rfl rfl) ?_
    intro b4 _
    try simp only [SL.setN, SL.putD, SL.selM, SL.nth, List.cons_append, List.nil_append]
    refine SL.Ok.op rfl rfl rfl (SL.Pure.assign rfl rfl) ?_
    refine SL.Ok.nil ?_
    refine SL.Ok.normThen ?_
    refine hK1 _ _ ?_
    refine SL.Ok.seq fun K2 hK2 => ?_
    refine SL.Ok.seq fun K3 hK3 => ?_
    refine SL.Ok.region ?_
    refine SL.Ok.eff rfl (SL.Eff.callV rfl rfl (by kernel_rfl) rfl rfl (fun w hM hK => known_c w)) ?_
    intro _ _
    try simp only [SL.setN, SL.putD, SL.selM, SL.nth, List.cons_append, List.nil_append]
    refine SL.Ok.op rfl rfl rfl (SL.Pure.not rfl rfl) ?_
    refine SL.Ok.op rfl rfl rfl (SL.Pure.move rfl rfl) ?_
    refine SL.Ok.setF (d := 25) rfl (rfl) ?_
    refine SL.Ok.opG rfl rfl rfl rfl rfl rfl rfl (SL.Pure.move rfl rfl) ?_
    refine SL.Ok.opG rfl rfl rfl rfl rfl rfl rfl (SL.Pure.lenS rfl rfl rfl Try.underlying9) ?_
    refine SL.Ok.opG rfl rfl rfl rfl rfl rfl rfl (SL.Pure.gtr rfl rfl rfl) ?_
    refine SL.Ok.op rfl rfl rfl (SL.Pure.pickF rfl rfl rfl) ?_
    refine SL.Ok.op rfl rfl rfl (SL.Pure.move rfl rfl) ?_
    refine SL.Ok.setF (d := 30) rfl (by simp; omega) ?_
    refine SL.Ok.opG rfl rfl rfl rfl rfl rfl rfl (SL.Pure.move rfl rfl) ?_
    refine SL.Ok.opG rfl rfl rfl rfl rfl rfl rfl (SL.Pure.lenSl rfl rfl rfl Try.underlying49) ?_
    refine SL.Ok.opG rfl rfl rfl rfl rfl rfl rfl (SL.Pure.gtr rfl rfl rfl) ?_
    refine SL.Ok.op rfl rfl rfl (SL.Pure.pickF rfl rfl rfl) ?_
    refine SL.Ok.nil ?_
    refine SL.Ok.normThen ?_
    refine hK3 _ _ ?_
    refine SL.Ok.condT' rfl (by simp; omega) ?_
    refine SL.Ok.seq fun K4 hK4 => ?_
    refine SL.Ok.region ?_
    refine SL.Ok.eff rfl (SL.Eff.callV rfl rfl (by kernel_rfl) rfl rfl (fun w hM hK => known_c w)) ?_
    intro _ _
    try simp only [SL.setN, SL.putD, SL.selM, SL.nth, List.cons_append, List.nil_append]
    refine SL.Ok.op rfl rfl rfl (SL.Pure.assign rfl rfl) ?_
    refine SL.Ok.nil ?_
    refine SL.Ok.normThen ?_
    refine hK4 _ _ ?_
    refine SL.Ok.ret (SL.retThen SL.retHere) (SL.resL rfl (.cons (.tmp rfl) .nil) rfl) (fun w' hM' hK' => ?_)
    exact ⟨rfl, hK'⟩
  refine SL.calls_ok (n := 176) (W := SL.none1) (m := []) Try.func5 rfl Try.ntmps5 rfl (SL.Mem.nil _ _ _) ?_
  simp only [SL.enum, Nat.reduceAdd]
  refine SL.Ok.seq fun K1 hK1 => ?_
  refine SL.Ok.region ?_
  refine SL.Ok.eff rfl (SL.Eff.box _ rfl rfl rfl rfl rfl) ?_
  intro b4 _
  try simp only [SL.setN, SL.putD, SL.selM, SL.nth, List.cons_append, List.nil_append]
  refine SL.Ok.op rfl rfl rfl (SL.Pure.assign rfl rfl) ?_
  refine SL.Ok.nil ?_
  refine SL.Ok.normThen ?_
  refine hK1 _ _ ?_
  refine SL.Ok.seq fun K2 hK2 => ?_
  refine SL.Ok.seq fun K3 hK3 => ?_
  refine SL.Ok.region ?_
  refine SL.Ok.eff rfl (SL.Eff.callV rfl rfl (by kernel_rfl) rfl rfl (fun w hM hK => known_c w)) ?_
  intro _ _
  try simp only [SL.setN, SL.putD, SL.selM, SL.nth, List.cons_append, List.nil_append]
  refine SL.Ok.op rfl rfl rfl (SL.Pure.not rfl rfl) ?_
  refine SL.Ok.op rfl rfl rfl (SL.Pure.move rfl rfl) ?_
  refine SL.Ok.setF (d := 25) rfl (rfl) ?_
  refine SL.Ok.opG rfl rfl rfl rfl rfl rfl rfl (SL.Pure.move rfl rfl) ?_
  refine SL.Ok.opG rfl rfl rfl rfl rfl rfl rfl (SL.Pure.lenS rfl rfl rfl Try.underlying9) ?_
  refine SL.Ok.opG rfl rfl rfl rfl rfl rfl rfl (SL.Pure.gtr rfl rfl rfl) ?_
  refine SL.Ok.op rfl rfl rfl (SL.Pure.pickF rfl rfl rfl) ?_
  refine SL.Ok.op rfl rfl rfl (SL.Pure.move rfl rfl) ?_
  refine SL.Ok.setF (d := 30) rfl (by simp; omega) ?_
  refine SL.Ok.opG rfl rfl rfl rfl rfl rfl rfl (SL.Pure.move rfl rfl) ?_
  refine SL.Ok.opG rfl rfl rfl rfl rfl rfl rfl (SL.Pure.lenSl rfl rfl rfl Try.underlying49) ?_
  refine SL.Ok.opG rfl rfl rfl rfl rfl rfl rfl (SL.Pure.gtr rfl rfl rfl) ?_
  refine SL.Ok.op rfl rfl rfl (SL.Pure.pickF rfl rfl rfl) ?_
  refine SL.Ok.nil ?_
  refine SL.Ok.normThen ?_
  refine hK3 _ _ ?_
  refine SL.Ok.condF' rfl (by simp; omega) ?_
  refine SL.Ok.skip' ?_
  refine SL.Ok.normThen ?_
  refine hK2 _ _ ?_
  refine SL.Ok.seq fun K4 hK4 => ?_
  refine SL.Ok.region ?_
  refine SL.Ok.op rfl rfl rfl (SL.Pure.move rfl rfl) ?_
  refine SL.Ok.op rfl rfl rfl (SL.Pure.move rfl rfl) ?_
  refine SL.Ok.eff rfl (SL.Eff.callV rfl rfl (by kernel_rfl) rfl rfl (fun w hM hK => length_c t n (by omega) hn' w)) ?_
  intro _ _
  try simp only [SL.setN, SL.putD, SL.selM, SL.nth, List.cons_append, List.nil_append]
  obtain ⟨T, hT⟩ : ∃ T, T = t ++ rep n := ⟨_, rfl⟩
  rw [← hT]
  have hTl : T.length ≤ 7989 := by have := rep_len n; rw [hT, List.length_append]; omega
  clear hT
  refine SL.Ok.op rfl rfl rfl (SL.Pure.assign rfl rfl) ?_
  refine SL.Ok.nil ?_
  refine SL.Ok.normThen ?_
  refine hK4 _ _ ?_
  refine SL.Ok.seq fun K5 hK5 => ?_
  refine SL.Ok.region ?_
  refine SL.Ok.op rfl rfl rfl (by first | exact SL.Pure.loadA 0 (k := 32) rfl rfl rfl (by kernel_rfl) rfl (by kernel_rfl)) ?_
  refine SL.Ok.op rfl rfl rfl (SL.Pure.move rfl rfl) ?_
  refine SL.Ok.op rfl rfl rfl (SL.Pure.lenS rfl rfl rfl Try.underlying9) ?_
  refine SL.Ok.eff rfl (SL.Eff.call [] [0] rfl rfl (by kernel_rfl) rfl rfl rfl rfl (fun w hM hK => newR_ok id T.length w (by omega) (by omega))) ?_
  intro b43 _
  try simp only [SL.setN, SL.putD, SL.selM, SL.nth, List.cons_append, List.nil_append]
  refine SL.Ok.op rfl rfl rfl (SL.Pure.move rfl rfl) ?_
  refine SL.Ok.op rfl rfl rfl (SL.Pure.extract rfl rfl rfl) ?_
  refine SL.Ok.op rfl rfl rfl (SL.Pure.extract rfl rfl rfl) ?_
  refine SL.Ok.op rfl rfl rfl (SL.Pure.assign rfl rfl) ?_
  refine SL.Ok.op rfl rfl rfl (SL.Pure.assign rfl rfl) ?_
  refine SL.Ok.nil ?_
  refine SL.Ok.normThen ?_
  refine hK5 _ _ ?_
  refine SL.Ok.seq fun K6 hK6 => ?_
  refine SL.Ok.seq fun K7 hK7 => ?_
  refine SL.Ok.region ?_
  refine SL.Ok.op rfl rfl rfl (SL.Pure.move rfl rfl) ?_
  refine SL.Ok.op rfl rfl rfl (SL.Pure.nei rfl rfl rfl) ?_
  refine SL.Ok.nil ?_
  refine SL.Ok.normThen ?_
  refine hK7 _ _ ?_
  refine SL.Ok.condF' rfl (rfl) ?_
  refine SL.Ok.skip' ?_
  refine SL.Ok.normThen ?_
  refine hK6 _ _ ?_
  refine SL.Ok.seq fun K8 hK8 => ?_
  refine SL.Ok.seq fun K9 hK9 => ?_
  refine SL.Ok.region ?_
  refine SL.Ok.op rfl rfl rfl (SL.Pure.assign rfl rfl) ?_
  refine SL.Ok.nil ?_
  refine SL.Ok.normThen ?_
  refine hK9 _ _ ?_
  refine SL.Ok.block ?_
  refine SL.Ok.loop (X := (Nat × RS × BX)) (φ := fun X => X.1 ≤ len + 1 ∧ rok b43 X.2.1 X.2.2 ∧ TI T id X.2.1 ∧ (X.1 = len + 1 → X.2.1.fin = true)) (L := fun X => [(1, str T), (3, .slice a len cap), (4, .pointer (some ⟨b4, 0, none⟩)), (9, .pointer (some ⟨b43, 0, none⟩)), (11, .int .i64 X.1)]) (M := fun X => rmem b43 X.2.1 X.2.2 ++ [.blk b4 (.cells (flat [id.seg]) 23 (0, 0))]) (μ := fun X => len + 1 - X.1) ?_ ?_
  · exact fun _ _ st => ⟨(0, ⟨id, T.length, [], false⟩, ⟨none, none, 0⟩), ⟨Nat.zero_le _, rok_new .., TI.new T id (by omega), fun h => absurd h (by simp)⟩, st.to [0, 1, 2] ⟨rfl, rfl, rfl, rfl, rfl, trivial⟩ rfl rfl⟩
  · intro ⟨i, r, x⟩ ⟨hi, hok, hti, hend⟩
    try dsimp only
    dsimp only at hi hok hti hend
    refine SL.Ok.seq fun K10 hK10 => ?_
    refine SL.Ok.seq fun K11 hK11 => ?_
    refine SL.Ok.region ?_
    refine SL.Ok.op rfl rfl rfl (SL.Pure.move rfl rfl) ?_
    refine SL.Ok.op rfl rfl rfl (SL.Pure.move rfl rfl) ?_
    refine SL.Ok.op rfl rfl rfl (SL.Pure.lenSl rfl rfl rfl Try.underlying49) ?_
    refine SL.Ok.op rfl rfl rfl (SL.Pure.leq rfl rfl rfl) ?_
    refine SL.Ok.nil ?_
    refine SL.Ok.normThen ?_
    refine hK11 _ _ ?_
    refine SL.Ok.cond rfl (fun hc51 => ?_) (fun hc51 => ?_)
    · skip
      have hil : i ≤ len := by simp at hc51; omega
      refine SL.Ok.skip' ?_
      refine SL.Ok.normThen ?_
      refine hK10 _ _ ?_
      refine SL.Ok.seq fun K12 hK12 => ?_
      refine SL.Ok.block ?_
      refine SL.Ok.seq fun K13 hK13 => ?_
      refine SL.Ok.region ?_
      refine SL.Ok.op rfl rfl rfl (SL.Pure.assign rfl rfl) ?_
      refine SL.Ok.op rfl rfl rfl (SL.Pure.assign rfl rfl) ?_
      refine SL.Ok.nil ?_
      refine SL.Ok.normThen ?_
      refine hK13 _ _ ?_
      refine SL.Ok.seq fun K14 hK14 => ?_
      refine SL.Ok.join (X := (Int × Int × BX)) (φ := fun Y => 1 ≤ Y.1 ∧ Y.1 ≤ 4096 ∧ 0 ≤ Y.2.1 ∧ Y.2.1 ≤ 10000 ∧ (i = len → Y.2.1 = 10000) ∧ rok b43 r Y.2.2) (L := fun Y => [(1, str T), (3, .slice a len cap), (4, .pointer (some ⟨b4, 0, none⟩)), (9, .pointer (some ⟨b43, 0, none⟩)), (11, .int .i64 i), (12, .int .i64 Y.1), (13, .int .i64 Y.2.1)]) (M := fun Y => rmem b43 r Y.2.2 ++ [.blk b4 (.cells (flat [id.seg]) 23 (0, 0))]) ?_ (fun hJr11 => ?_)
      · intro ⟨ch, arr, x⟩ ⟨hch1, hch2, harr1, harr2, hlast, hok⟩
        try dsimp only
        refine SL.Ok.normThen ?_
        refine hK14 _ _ ?_
        refine SL.Ok.seq fun K15 hK15 => ?_
        refine SL.Ok.seq fun K16 hK16 => ?_
        dsimp only at hch1 hch2 harr1 harr2 hlast hok
        refine SL.Ok.region ?_
        refine SL.Ok.op rfl rfl rfl (SL.Pure.move rfl rfl) ?_
        refine SL.Ok.eff rfl (SL.Eff.callV rfl rfl (by kernel_rfl) rfl rfl (fun w hM hK => recv_complete b43 r x w (hM.blk (i := 0) rfl))) ?_
        intro _ _
        try simp only [SL.setN, SL.putD, SL.selM, SL.nth, List.cons_append, List.nil_append]
        refine SL.Ok.nil ?_
        refine SL.Ok.normThen ?_
        refine hK16 _ _ ?_
        refine SL.Ok.cond rfl (fun hc117 => ?_) (fun hc117 => ?_)
        · skip
          have hfin : r.fin = true := by simpa using hc117
          refine SL.Ok.exit ?_
          refine SL.Ok.exThen ?_
          refine SL.Ok.exOther rfl ?_
          refine SL.Ok.exThen ?_
          refine SL.Ok.exThen ?_
          refine SL.Ok.exHere ?_
          refine SL.Ok.normThen ?_
          refine hK8 _ _ ?_
          refine SL.Ok.seq fun K17 hK17 => ?_
          refine SL.Ok.region ?_
          refine SL.Ok.op rfl rfl rfl (SL.Pure.move rfl rfl) ?_
          refine SL.Ok.eff rfl (SL.Eff.call [0, 1] [2] rfl rfl (by kernel_rfl) rfl rfl rfl rfl (fun w hM hK => recv_text_yes b43 r x hok hfin w (hM.sel [0, 1] rfl).own)) ?_
          intro _ _
          try simp only [SL.setN, SL.putD, SL.selM, SL.nth, List.cons_append, List.nil_append]
          refine SL.Ok.op rfl rfl rfl (SL.Pure.move rfl rfl) ?_
          refine SL.Ok.op rfl rfl rfl (SL.Pure.extract rfl rfl rfl) ?_
          refine SL.Ok.op rfl rfl rfl (SL.Pure.extract rfl rfl rfl) ?_
          refine SL.Ok.op rfl rfl rfl (SL.Pure.assign rfl rfl) ?_
          refine SL.Ok.op rfl rfl rfl (SL.Pure.assign rfl rfl) ?_
          refine SL.Ok.nil ?_
          refine SL.Ok.normThen ?_
          refine hK17 _ _ ?_
          refine SL.Ok.seq fun K18 hK18 => ?_
          refine SL.Ok.region ?_
          refine SL.Ok.op rfl rfl rfl (SL.Pure.move rfl rfl) ?_
          refine SL.Ok.op rfl rfl rfl (SL.Pure.eqi rfl rfl rfl) ?_
          refine SL.Ok.op rfl rfl rfl (SL.Pure.move rfl rfl) ?_
          refine SL.Ok.setT (d := 164) rfl (rfl) ?_
          refine SL.Ok.opG rfl rfl rfl rfl rfl rfl rfl (SL.Pure.move rfl rfl) ?_
          refine SL.Ok.opG rfl rfl rfl rfl rfl rfl rfl (SL.Pure.move rfl rfl) ?_
          refine SL.Ok.opG rfl rfl rfl rfl rfl rfl rfl (SL.Pure.eqS rfl rfl rfl) ?_
          refine SL.Ok.op rfl rfl rfl (SL.Pure.pickT rfl rfl rfl) ?_
          refine SL.Ok.op rfl rfl rfl (SL.Pure.move rfl rfl) ?_
          refine SL.Ok.setT (d := 169) rfl (by simp [hti.all hfin]) ?_
          refine SL.Ok.opG rfl rfl rfl rfl rfl rfl rfl (SL.Pure.move rfl rfl) ?_
          refine SL.Ok.effG rfl rfl rfl rfl rfl (SL.Eff.callV rfl rfl (by kernel_rfl) rfl rfl (fun w hM hK => recv_from b43 r x w (hM.blk (i := 0) rfl))) ?_
          intro _ _
          simp only [SL.setN, SL.putD, SL.selM, SL.nth, List.cons_append, List.nil_append]
          refine SL.Ok.opG rfl rfl rfl rfl rfl rfl rfl (SL.Pure.move rfl rfl) ?_
          refine SL.Ok.opG rfl rfl rfl rfl rfl rfl rfl (SL.Pure.lenS rfl rfl rfl Try.underlying9) ?_
          refine SL.Ok.opG rfl rfl rfl rfl rfl rfl rfl (SL.Pure.eqi rfl rfl rfl) ?_
          refine SL.Ok.op rfl rfl rfl (SL.Pure.pickT rfl rfl rfl) ?_
          refine SL.Ok.op rfl rfl rfl (SL.Pure.assign rfl rfl) ?_
          refine SL.Ok.nil ?_
          refine SL.Ok.normThen ?_
          refine hK18 _ _ ?_
          refine SL.Ok.ret SL.retHere (SL.resL rfl (.cons (.tmp rfl) .nil) rfl) (fun w' hM' hK' => ?_)
          first | exact ⟨rfl, hK'⟩ | exact ⟨by simp [SL.retv, hti.all hfin], hK'⟩
        · skip
          have hnf : r.fin = false := by simpa using hc117
          refine SL.Ok.skip' ?_
          refine SL.Ok.normThen ?_
          refine hK15 _ _ ?_
          refine SL.Ok.seq fun K19 hK19 => ?_
          refine SL.Ok.region ?_
          refine SL.Ok.op rfl rfl rfl (SL.Pure.move rfl rfl) ?_
          refine SL.Ok.eff rfl (SL.Eff.callV rfl rfl (by kernel_rfl) rfl rfl (fun w hM hK => recv_from b43 r x w (hM.blk (i := 0) rfl))) ?_
          intro _ _
          try simp only [SL.setN, SL.putD, SL.selM, SL.nth, List.cons_append, List.nil_append]
          refine SL.Ok.op rfl rfl rfl (SL.Pure.assign rfl rfl) ?_
          refine SL.Ok.nil ?_
          refine SL.Ok.normThen ?_
          refine hK19 _ _ ?_
          refine SL.Ok.seq fun K20 hK20 => ?_
          refine SL.Ok.region ?_
          refine SL.Ok.op rfl rfl rfl (by first | exact SL.Pure.loadA 0 (k := 32) rfl rfl rfl (by kernel_rfl) rfl (by kernel_rfl) | exact SL.Pure.loadA 1 (k := 32) rfl rfl rfl (by kernel_rfl) rfl (by kernel_rfl) | exact SL.Pure.loadA 2 (k := 32) rfl rfl rfl (by kernel_rfl) rfl (by kernel_rfl)) ?_
          refine SL.Ok.op rfl rfl rfl (SL.Pure.move rfl rfl) ?_
          refine SL.Ok.op rfl rfl rfl (SL.Pure.move rfl rfl) ?_
          refine SL.Ok.op rfl rfl rfl (SL.Pure.move rfl rfl) ?_
          refine SL.Ok.eff rfl (SL.Eff.call [] [0, 1, 2] rfl rfl (by kernel_rfl) rfl rfl rfl rfl (fun w hM hK => newS_ok id T ch r.t.length w (by omega) hch1 hch2 (by omega) (by have := hti.pre.length_le; omega))) ?_
          intro b125 _
          try simp only [SL.setN, SL.putD, SL.selM, SL.nth, List.cons_append, List.nil_append]
          refine SL.Ok.op rfl rfl rfl (SL.Pure.move rfl rfl) ?_
          refine SL.Ok.op rfl rfl rfl (SL.Pure.extract rfl rfl rfl) ?_
          refine SL.Ok.op rfl rfl rfl (SL.Pure.extract rfl rfl rfl) ?_
          refine SL.Ok.op rfl rfl rfl (SL.Pure.assign rfl rfl) ?_
          refine SL.Ok.op rfl rfl rfl (SL.Pure.assign rfl rfl) ?_
          refine SL.Ok.nil ?_
          refine SL.Ok.normThen ?_
          refine hK20 _ _ ?_
          refine SL.Ok.seq fun K21 hK21 => ?_
          refine SL.Ok.seq fun K22 hK22 => ?_
          refine SL.Ok.region ?_
          refine SL.Ok.op rfl rfl rfl (SL.Pure.move rfl rfl) ?_
          refine SL.Ok.op rfl rfl rfl (SL.Pure.nei rfl rfl rfl) ?_
          refine SL.Ok.nil ?_
          refine SL.Ok.normThen ?_
          refine hK22 _ _ ?_
          refine SL.Ok.condF' rfl (rfl) ?_
          refine SL.Ok.skip' ?_
          refine SL.Ok.normThen ?_
          refine hK21 _ _ ?_
          refine SL.Ok.seq fun K23 hK23 => ?_
          refine SL.Ok.seq fun K24 hK24 => ?_
          refine SL.Ok.region ?_
          refine SL.Ok.op rfl rfl rfl (SL.Pure.assign rfl rfl) ?_
          refine SL.Ok.nil ?_
          refine SL.Ok.normThen ?_
          refine hK24 _ _ ?_
          refine SL.Ok.block ?_
          refine SL.Ok.loop (X := (Nat × RS × BX × SS)) (φ := fun Z => rok b43 Z.2.1 Z.2.2.1 ∧ SI T id Z.2.1 Z.2.2.2 ∧ (r.t.length : Int) ≤ Z.2.2.2.sent ∧ (Z.2.2.2.fin = true ∨ (Z.1 : Int) ≤ Z.2.2.2.sent) ∧ (Z.1 : Int) ≤ arr) (L := fun Z => [(1, str T), (3, .slice a len cap), (4, .pointer (some ⟨b4, 0, none⟩)), (9, .pointer (some ⟨b43, 0, none⟩)), (11, .int .i64 i), (13, .int .i64 arr), (15, .int .i64 r.t.length), (16, .pointer (some ⟨b125, 0, none⟩)), (18, .int .i64 Z.1)]) (M := fun Z => smem b125 Z.2.2.2 ++ rmem b43 Z.2.1 Z.2.2.1 ++ [.blk b4 (.cells (flat [id.seg]) 23 (0, 0))]) (μ := fun Z => arr.toNat - Z.1) ?_ ?_
          · exact fun _ _ st => ⟨(0, r, x, ⟨id, T, ch, r.t.length, false⟩), ⟨hok, ⟨hti, rfl, rfl, hch1, hch2, rfl, hnf.symm⟩, Int.le_refl _, .inr (by simp), by simpa using harr1⟩, st.to [0, 1, 2, 3] ⟨rfl, rfl, rfl, rfl, rfl, rfl, rfl, rfl, rfl, trivial⟩ rfl rfl⟩
          · intro ⟨k, q, y, s⟩ ⟨hqok, hsi, hfrom, hprog, hka⟩
            try dsimp only
            dsimp only at hqok hsi hfrom hprog hka
            obtain ⟨s2, v2, i2, f2, x2, is2, hsay, hno, hyes⟩ := say_hear hsi
            refine SL.Ok.seq fun K25 hK25 => ?_
            refine SL.Ok.seq fun K26 hK26 => ?_
            refine SL.Ok.region ?_
            refine SL.Ok.op rfl rfl rfl (SL.Pure.move rfl rfl) ?_
            refine SL.Ok.op rfl rfl rfl (SL.Pure.move rfl rfl) ?_
            refine SL.Ok.op rfl rfl rfl (SL.Pure.lss rfl rfl rfl) ?_
            refine SL.Ok.nil ?_
            refine SL.Ok.normThen ?_
            refine hK26 _ _ ?_
            refine SL.Ok.cond rfl (fun hc132 => ?_) (fun hc132 => ?_)
            · skip
              refine SL.Ok.skip' ?_
              refine SL.Ok.normThen ?_
              refine hK25 _ _ ?_
              refine SL.Ok.seq fun K27 hK27 => ?_
              refine SL.Ok.block ?_
              refine SL.Ok.seq fun K28 hK28 => ?_
              refine SL.Ok.region ?_
              refine SL.Ok.op rfl rfl rfl (SL.Pure.move rfl rfl) ?_
              refine SL.Ok.eff rfl (SL.Eff.call [0] [1, 2, 3] rfl rfl (by kernel_rfl) rfl rfl rfl rfl (fun w hM hK => say_eq b125 s s2 _ is2 hsay (hsi.sinv (by omega)) w (hM.sel [0] rfl).own)) ?_
              intro _ _
              try simp only [SL.setN, SL.putD, SL.selM, SL.nth, List.cons_append, List.nil_append]
              refine SL.Ok.op rfl rfl rfl (SL.Pure.move rfl rfl) ?_
              refine SL.Ok.op rfl rfl rfl (SL.Pure.extract rfl rfl rfl) ?_
              refine SL.Ok.op rfl rfl rfl (SL.Pure.extract rfl rfl rfl) ?_
              refine SL.Ok.eff rfl (SL.Eff.alloc [Seg.one (.int .i64 0) rfl, Seg.one (str []) rfl, (B.zero 32).seg, Seg.one (.int .i64 0) rfl, Seg.one (.int .i64 0) rfl, Seg.one (.int .i64 0) rfl, Seg.one (.int .i64 0) rfl, Seg.one (str []) rfl] rfl rfl rfl (by kernel_rfl)) ?_
              intro b19 _
              try simp only [SL.setN, SL.putD, SL.selM, SL.nth, List.cons_append, List.nil_append]
              refine SL.Ok.eff rfl (by first | exact SL.Eff.storeG (k := 39) 0 _ rfl rfl rfl rfl rfl rfl (by kernel_rfl) rfl rfl | exact SL.Eff.storeG (k := 39) 1 _ rfl rfl rfl rfl rfl rfl (by kernel_rfl) rfl rfl | exact SL.Eff.storeG (k := 39) 2 _ rfl rfl rfl rfl rfl rfl (by kernel_rfl) rfl rfl | exact SL.Eff.storeG (k := 39) 3 _ rfl rfl rfl rfl rfl rfl (by kernel_rfl) rfl rfl | exact SL.Eff.storeG (k := 39) 4 _ rfl rfl rfl rfl rfl rfl (by kernel_rfl) rfl rfl) ?_
              intro _ _
              try simp only [SL.setN, SL.putD, SL.selM, SL.nth, List.cons_append, List.nil_append]
              refine SL.Ok.op rfl rfl rfl (SL.Pure.assign rfl rfl) ?_
              refine SL.Ok.nil ?_
              refine SL.Ok.normThen ?_
              refine hK28 _ _ ?_
              refine SL.Ok.seq fun K29 hK29 => ?_
              refine SL.Ok.seq fun K30 hK30 => ?_
              refine SL.Ok.region ?_
              refine SL.Ok.op rfl rfl rfl (SL.Pure.move rfl rfl) ?_
              refine SL.Ok.op rfl rfl rfl (SL.Pure.not rfl rfl) ?_
              refine SL.Ok.nil ?_
              refine SL.Ok.normThen ?_
              refine hK30 _ _ ?_
              refine SL.Ok.cond rfl (fun hc141 => ?_) (fun hc141 => ?_)
              · skip
                obtain ⟨rfl, hsf⟩ := hno (by simpa using hc141)
                have hdone : i = len → q.fin = true := fun _ => hsi.fin ▸ hsf
                refine SL.Ok.exit ?_
                refine SL.Ok.exThen ?_
                refine SL.Ok.exOther rfl ?_
                refine SL.Ok.exThen ?_
                refine SL.Ok.exThen ?_
                refine SL.Ok.exHere ?_
                refine SL.Ok.normThen ?_
                refine hK23 _ _ ?_
                refine SL.Ok.seq fun K31 hK31 => ?_
                refine SL.Ok.region ?_
                refine SL.Ok.op rfl rfl rfl (SL.Pure.move rfl rfl) ?_
                refine SL.Ok.eff rfl (SL.Eff.callV rfl rfl (by kernel_rfl) rfl rfl (fun w hM hK => recv_from b43 q y w (by first | exact hM.blk (i := 1) rfl | exact hM.blk (i := 2) rfl))) ?_
                intro _ _
                try simp only [SL.setN, SL.putD, SL.selM, SL.nth, List.cons_append, List.nil_append]
                refine SL.Ok.op rfl rfl rfl (SL.Pure.move rfl rfl) ?_
                refine SL.Ok.op rfl rfl rfl (SL.Pure.lss rfl rfl rfl) ?_
                refine SL.Ok.op rfl rfl rfl (SL.Pure.move rfl rfl) ?_
                refine SL.Ok.setF (d := 150) rfl (by have := hsi.sent; simp; omega) ?_
                refine SL.Ok.opG rfl rfl rfl rfl rfl rfl rfl (SL.Pure.move rfl rfl) ?_
                refine SL.Ok.effG rfl rfl rfl rfl rfl (SL.Eff.callV rfl rfl (by kernel_rfl) rfl rfl (fun w hM hK => recv_from b43 q y w (by first | exact hM.blk (i := 1) rfl | exact hM.blk (i := 2) rfl))) ?_
                intro _ _
                simp only [SL.setN, SL.putD, SL.selM, SL.nth, List.cons_append, List.nil_append]
                refine SL.Ok.opG rfl rfl rfl rfl rfl rfl rfl (SL.Pure.move rfl rfl) ?_
                refine SL.Ok.effG rfl rfl rfl rfl rfl (SL.Eff.callV rfl rfl (by kernel_rfl) rfl rfl (fun w hM hK => sent_c b125 s w (by first | exact hM.blk (i := 0) rfl | exact hM.blk (i := 1) rfl))) ?_
                intro _ _
                simp only [SL.setN, SL.putD, SL.selM, SL.nth, List.cons_append, List.nil_append]
                refine SL.Ok.opG rfl rfl rfl rfl rfl rfl rfl (SL.Pure.gtr rfl rfl rfl) ?_
                refine SL.Ok.op rfl rfl rfl (SL.Pure.pickF rfl rfl rfl) ?_
                refine SL.Ok.nil ?_
                refine SL.Ok.normThen ?_
                refine hK31 _ _ ?_
                refine SL.Ok.condF' rfl (by have := hsi.sent; simp; omega) ?_
                refine SL.Ok.skip' ?_
                refine SL.Ok.normBlock ?_
                refine SL.Ok.normThen ?_
                refine hK12 _ _ ?_
                refine SL.Ok.region ?_
                refine SL.Ok.op rfl rfl rfl (SL.Pure.move rfl rfl) ?_
                refine SL.Ok.op rfl rfl rfl (SL.Pure.addI rfl rfl rfl rfl (by omega) (by omega)) ?_
                refine SL.Ok.op rfl rfl rfl (SL.Pure.assign rfl rfl) ?_
                refine SL.Ok.nil ?_
                refine SL.Ok.normThen ?_
                first | exact SL.Ok.round (i + 1, q, y) [1, 2, 3] ⟨by simp only; omega, hqok, hsi.ti, fun h => hdone (by simp only at h; omega)⟩ (by simp only; omega) ⟨rfl, rfl, rfl, rfl, rfl, trivial⟩ rfl rfl | exact SL.Ok.round (i + 1, q, y) [2, 3, 4] ⟨by simp only; omega, hqok, hsi.ti, fun h => hdone (by simp only at h; omega)⟩ (by simp only; omega) ⟨rfl, rfl, rfl, rfl, rfl, trivial⟩ rfl rfl
              · skip
                obtain ⟨q2, hhear, hsi2, hprog2, hge, hsf⟩ := hyes (by simpa using hc141)
                refine SL.Ok.skip' ?_
                refine SL.Ok.normThen ?_
                refine hK29 _ _ ?_
                refine SL.Ok.seq fun K32 hK32 => ?_
                refine SL.Ok.region ?_
                refine SL.Ok.op rfl rfl rfl (SL.Pure.move rfl rfl) ?_
                refine SL.Ok.op rfl rfl rfl (by first | exact SL.Pure.loadA 0 (k := 39) rfl rfl rfl (by kernel_rfl) rfl (by kernel_rfl) | exact SL.Pure.loadA 1 (k := 39) rfl rfl rfl (by kernel_rfl) rfl (by kernel_rfl) | exact SL.Pure.loadA 2 (k := 39) rfl rfl rfl (by kernel_rfl) rfl (by kernel_rfl) | exact SL.Pure.loadA 3 (k := 39) rfl rfl rfl (by kernel_rfl) rfl (by kernel_rfl) | exact SL.Pure.loadA 4 (k := 39) rfl rfl rfl (by kernel_rfl) rfl (by kernel_rfl)) ?_
                refine SL.Ok.eff rfl (SL.Eff.call [2, 3] [0, 1, 4] rfl rfl (by kernel_rfl) rfl rfl rfl rfl (fun w hM hK => hear_eq b43 q q2 0 y v2 i2 f2 x2 hhear hqok hsi.ti.inv w (hM.sel [2, 3] rfl).own)) ?_
                intro y2 hy2
                try simp only [SL.setN, SL.putD, SL.selM, SL.nth, List.cons_append, List.nil_append]
                refine SL.Ok.op rfl rfl rfl (SL.Pure.nei rfl rfl rfl) ?_
                refine SL.Ok.nil ?_
                refine SL.Ok.normThen ?_
                refine hK32 _ _ ?_
                refine SL.Ok.condF' rfl (rfl) ?_
                refine SL.Ok.skip' ?_
                refine SL.Ok.normBlock ?_
                refine SL.Ok.normThen ?_
                refine hK27 _ _ ?_
                refine SL.Ok.region ?_
                refine SL.Ok.op rfl rfl rfl (SL.Pure.move rfl rfl) ?_
                refine SL.Ok.op rfl rfl rfl (SL.Pure.addI rfl rfl rfl rfl (by omega) (by omega)) ?_
                refine SL.Ok.op rfl rfl rfl (SL.Pure.assign rfl rfl) ?_
                refine SL.Ok.nil ?_
                refine SL.Ok.normThen ?_
                exact SL.Ok.round (k + 1, q2, y2, s2) [3, 0, 1, 4] ⟨hy2, hsi2, by simp only; omega, by (rcases hprog2 with h | h; exact .inl h; rcases hprog with h' | h'; exact absurd (h'.symm.trans hsf) (by decide); exact .inr (by simp only; omega)), by (have e4 : (k : Int) < arr := by simpa using hc132); simp only; omega⟩ (by (have e4 : (k : Int) < arr := by simpa using hc132); simp only; omega) ⟨rfl, rfl, rfl, rfl, rfl, rfl, rfl, rfl, rfl, trivial⟩ rfl rfl
            · skip
              have hdone : i = len → q.fin = true := fun hil => by
                have e1 := hlast hil
                have e2 := hsi.ti.pre.length_le
                have e3 := hsi.sent
                have e4 : arr ≤ k := by simpa using hc132
                rcases hprog with h | h
                · exact hsi.fin ▸ h
                · omega
              refine SL.Ok.exit ?_
              refine SL.Ok.exThen ?_
              refine SL.Ok.exThen ?_
              refine SL.Ok.exHere ?_
              refine SL.Ok.normThen ?_
              refine hK23 _ _ ?_
              refine SL.Ok.seq fun K33 hK33 => ?_
              refine SL.Ok.region ?_
              refine SL.Ok.op rfl rfl rfl (SL.Pure.move rfl rfl) ?_
              refine SL.Ok.eff rfl (SL.Eff.callV rfl rfl (by kernel_rfl) rfl rfl (fun w hM hK => recv_from b43 q y w (by first | exact hM.blk (i := 1) rfl | exact hM.blk (i := 2) rfl))) ?_
              intro _ _
              try simp only [SL.setN, SL.putD, SL.selM, SL.nth, List.cons_append, List.nil_append]
              refine SL.Ok.op rfl rfl rfl (SL.Pure.move rfl rfl) ?_
              refine SL.Ok.op rfl rfl rfl (SL.Pure.lss rfl rfl rfl) ?_
              refine SL.Ok.op rfl rfl rfl (SL.Pure.move rfl rfl) ?_
              refine SL.Ok.setF (d := 150) rfl (by have := hsi.sent; simp; omega) ?_
              refine SL.Ok.opG rfl rfl rfl rfl rfl rfl rfl (SL.Pure.move rfl rfl) ?_
              refine SL.Ok.effG rfl rfl rfl rfl rfl (SL.Eff.callV rfl rfl (by kernel_rfl) rfl rfl (fun w hM hK => recv_from b43 q y w (by first | exact hM.blk (i := 1) rfl | exact hM.blk (i := 2) rfl))) ?_
              intro _ _
              simp only [SL.setN, SL.putD, SL.selM, SL.nth, List.cons_append, List.nil_append]
              refine SL.Ok.opG rfl rfl rfl rfl rfl rfl rfl (SL.Pure.move rfl rfl) ?_
              refine SL.Ok.effG rfl rfl rfl rfl rfl (SL.Eff.callV rfl rfl (by kernel_rfl) rfl rfl (fun w hM hK => sent_c b125 s w (by first | exact hM.blk (i := 0) rfl | exact hM.blk (i := 1) rfl))) ?_
              intro _ _
              simp only [SL.setN, SL.putD, SL.selM, SL.nth, List.cons_append, List.nil_append]
              refine SL.Ok.opG rfl rfl rfl rfl rfl rfl rfl (SL.Pure.gtr rfl rfl rfl) ?_
              refine SL.Ok.op rfl rfl rfl (SL.Pure.pickF rfl rfl rfl) ?_
              refine SL.Ok.nil ?_
              refine SL.Ok.normThen ?_
              refine hK33 _ _ ?_
              refine SL.Ok.condF' rfl (by have := hsi.sent; simp; omega) ?_
              refine SL.Ok.skip' ?_
              refine SL.Ok.normBlock ?_
              refine SL.Ok.normThen ?_
              refine hK12 _ _ ?_
              refine SL.Ok.region ?_
              refine SL.Ok.op rfl rfl rfl (SL.Pure.move rfl rfl) ?_
              refine SL.Ok.op rfl rfl rfl (SL.Pure.addI rfl rfl rfl rfl (by omega) (by omega)) ?_
              refine SL.Ok.op rfl rfl rfl (SL.Pure.assign rfl rfl) ?_
              refine SL.Ok.nil ?_
              refine SL.Ok.normThen ?_
              first | exact SL.Ok.round (i + 1, q, y) [1, 2, 3] ⟨by simp only; omega, hqok, hsi.ti, fun h => hdone (by simp only at h; omega)⟩ (by simp only; omega) ⟨rfl, rfl, rfl, rfl, rfl, trivial⟩ rfl rfl | exact SL.Ok.round (i + 1, q, y) [2, 3, 4] ⟨by simp only; omega, hqok, hsi.ti, fun h => hdone (by simp only at h; omega)⟩ (by simp only; omega) ⟨rfl, rfl, rfl, rfl, rfl, trivial⟩ rfl rfl
      refine SL.Ok.seq fun K34 hK34 => ?_
      refine SL.Ok.region ?_
      refine SL.Ok.op rfl rfl rfl (SL.Pure.move rfl rfl) ?_
      refine SL.Ok.op rfl rfl rfl (SL.Pure.move rfl rfl) ?_
      refine SL.Ok.op rfl rfl rfl (SL.Pure.lenSl rfl rfl rfl Try.underlying49) ?_
      refine SL.Ok.op rfl rfl rfl (SL.Pure.lss rfl rfl rfl) ?_
      refine SL.Ok.nil ?_
      refine SL.Ok.normThen ?_
      refine hK34 _ _ ?_
      refine SL.Ok.cond rfl (fun hc57 => ?_) (fun hc57 => ?_)
      · skip
        have hkl : i < len := by simpa using hc57
        rcases hs with h0 | ⟨sb, soff, rfl, hsb, E, hE⟩
        · omega
        obtain ⟨hrng, hrd⟩ := hE i hkl
        obtain ⟨ac, aa, v, ci, f, xs, hEk, hacb, haab, hvb, hfb, hxl⟩ := rd_att hrd
        rw [hEk] at hrng
        clear hE hrd hEk
        refine SL.Ok.seq fun K35 hK35 => ?_
        refine SL.Ok.held [0, 1, 2] mixed rfl rfl ?_
        simp only [List.replicate, List.length_cons, List.length_nil, Nat.reduceAdd]
        refine SL.OkH.take 0 rfl rfl rfl rfl (by kernel_rfl) (by kernel_rfl) (by kernel_rfl) rfl (fun _ _ _ h => h) [0, 1, 2] rfl rfl (SL.Pure.move rfl rfl) ?_
        refine SL.OkH.take 1 rfl rfl rfl rfl (by kernel_rfl) (by kernel_rfl) (by kernel_rfl) rfl (fun _ _ _ h => h) [0, 1, 2] rfl rfl (SL.Pure.move rfl rfl) ?_
        refine SL.OkH.take 2 rfl rfl rfl rfl (by kernel_rfl) (by kernel_rfl) (by kernel_rfl) rfl (fun _ _ _ h => h) [0, 1, 2] rfl rfl (SL.Pure.indexAddrS (sz := 37) rfl rfl rfl Try.underlying49 (by kernel_rfl) (by omega) (by omega) rfl) ?_
        refine SL.OkH.take 3 rfl rfl rfl rfl (by kernel_rfl) (by kernel_rfl) (by kernel_rfl) rfl (fun _ _ _ h => h) [0, 1, 2] rfl rfl (SL.Pure.fieldAddr (k := 0) rfl rfl (by kernel_rfl) rfl) ?_
        refine SL.OkH.take 4 rfl rfl rfl rfl (by kernel_rfl) (by kernel_rfl) (by kernel_rfl) rfl (fun _ _ _ h => h) [0, 1, 2] rfl rfl (SL.Pure.loadOR1 (range_sub [] (Seg.one (.int .u8 aa) rfl :: rcmd v ci f xs) (k := 0) rfl hrng) hsb (fun h => h) rfl rfl (by kernel_rfl)) ?_
        refine SL.OkH.take 5 rfl rfl rfl rfl (by kernel_rfl) (by kernel_rfl) (by kernel_rfl) rfl (fun _ _ _ h => h) [0, 1, 2] rfl rfl (Pure.convSame rfl rfl (by kernel_rfl) Try.underlying3 (by omega) (by omega)) ?_
        refine SL.OkH.take 6 rfl rfl rfl rfl (by kernel_rfl) (by kernel_rfl) (by kernel_rfl) rfl (fun _ _ _ h => h) [0, 1, 2] rfl rfl (SL.Pure.remI rfl rfl rfl (by omega) (by omega) (by omega)) ?_
        refine SL.OkH.take 7 rfl rfl rfl rfl (by kernel_rfl) (by kernel_rfl) (by kernel_rfl) rfl (fun _ _ _ h => h) [0, 1, 2] rfl rfl (SL.Pure.addI rfl rfl rfl rfl (by omega) (by omega)) ?_
        refine SL.OkH.take 8 rfl rfl rfl rfl (by kernel_rfl) (by kernel_rfl) (by kernel_rfl) rfl (fun _ _ _ h => h) [0, 1, 2] rfl rfl (SL.Pure.move rfl rfl) ?_
        refine SL.OkH.take 9 rfl rfl rfl rfl (by kernel_rfl) (by kernel_rfl) (by kernel_rfl) rfl (fun _ _ _ h => h) [0, 1, 2] rfl rfl (SL.Pure.move rfl rfl) ?_
        refine SL.OkH.take 10 rfl rfl rfl rfl (by kernel_rfl) (by kernel_rfl) (by kernel_rfl) rfl (fun _ _ _ h => h) [0, 1, 2] rfl rfl (SL.Pure.indexAddrS (sz := 37) rfl rfl rfl Try.underlying49 (by kernel_rfl) (by omega) (by omega) rfl) ?_
        refine SL.OkH.take 11 rfl rfl rfl rfl (by kernel_rfl) (by kernel_rfl) (by kernel_rfl) rfl (fun _ _ _ h => h) [0, 1, 2] rfl rfl (SL.Pure.fieldAddr (k := 1) rfl rfl (by kernel_rfl) rfl) ?_
        refine SL.OkH.take 12 rfl rfl rfl rfl (by kernel_rfl) (by kernel_rfl) (by kernel_rfl) rfl (fun _ _ _ h => h) [0, 1, 2] rfl rfl (SL.Pure.loadOR1 (range_sub [Seg.one (.int .u16 ac) rfl] (rcmd v ci f xs) (k := 1) rfl hrng) hsb (fun h => h) rfl rfl (by kernel_rfl)) ?_
        refine SL.OkH.take 13 rfl rfl rfl rfl (by kernel_rfl) (by kernel_rfl) (by kernel_rfl) rfl (fun _ _ _ h => h) [0, 1, 2] rfl rfl (Pure.convSame rfl rfl (by kernel_rfl) Try.underlying3 (by omega) (by omega)) ?_
        refine SL.OkH.take 14 rfl rfl rfl rfl (by kernel_rfl) (by kernel_rfl) (by kernel_rfl) rfl (fun _ _ _ h => h) [0, 1, 2] rfl rfl (SL.Pure.assign rfl rfl) ?_
        refine SL.OkH.take 15 rfl rfl rfl rfl (by kernel_rfl) (by kernel_rfl) (by kernel_rfl) rfl (fun _ _ _ h => h) [0, 1, 2] rfl rfl (SL.Pure.assign rfl rfl) ?_
        refine SL.OkH.done (by kernel_rfl) ?_
        refine SL.Ok.normThen ?_
        refine hK35 _ _ ?_
        refine SL.Ok.seq fun K36 hK36 => ?_
        refine SL.Ok.region ?_
        refine SL.Ok.op rfl rfl rfl (SL.Pure.move rfl rfl) ?_
        refine SL.Ok.op rfl rfl rfl (SL.Pure.move rfl rfl) ?_
        refine SL.Ok.op rfl rfl rfl (SL.Pure.indexAddrS (sz := 37) rfl rfl rfl Try.underlying49 (by kernel_rfl) (by omega) (by omega) rfl) ?_
        refine SL.Ok.op rfl rfl rfl (SL.Pure.fieldAddr (k := 2) rfl rfl (by kernel_rfl) rfl) ?_
        refine SL.Ok.op rfl rfl rfl (SL.Pure.loadOR (k := 35) (q := rcmd v ci f xs) (range_sub [Seg.one (.int .u16 ac) rfl, Seg.one (.int .u8 aa) rfl] [] (k := 2) rfl (by simpa using hrng)) hsb (fun h => h) rfl rfl (by kernel_rfl) rfl (by kernel_rfl)) ?_
        refine SL.Ok.eff rfl (SL.Eff.alloc [Seg.one (.int .i64 0) rfl, (B.zero 32).seg, Seg.one (.int .i64 0) rfl, Seg.one (str []) rfl] rfl rfl rfl (by kernel_rfl)) ?_
        intro b14 _
        try simp only [SL.setN, SL.putD, SL.selM, SL.nth, List.cons_append, List.nil_append]
        refine SL.Ok.eff rfl (by first | exact SL.Eff.storeG (k := 35) 0 _ rfl rfl rfl rfl rfl rfl (by kernel_rfl) rfl rfl | exact SL.Eff.storeG (k := 35) 1 _ rfl rfl rfl rfl rfl rfl (by kernel_rfl) rfl rfl | exact SL.Eff.storeG (k := 35) 2 _ rfl rfl rfl rfl rfl rfl (by kernel_rfl) rfl rfl | exact SL.Eff.storeG (k := 35) 3 _ rfl rfl rfl rfl rfl rfl (by kernel_rfl) rfl rfl) ?_
        intro _ _
        try simp only [SL.setN, SL.putD, SL.selM, SL.nth, List.cons_append, List.nil_append]
        refine SL.Ok.nil ?_
        refine SL.Ok.normThen ?_
        refine hK36 _ _ ?_
        refine SL.Ok.seq fun K37 hK37 => ?_
        refine SL.Ok.held [0, 3] mixed rfl rfl ?_
        simp only [List.replicate, List.length_cons, List.length_nil, Nat.reduceAdd]
        refine SL.OkH.take 0 rfl rfl rfl rfl (by kernel_rfl) (by kernel_rfl) (by kernel_rfl) rfl (fun _ _ _ h => h) [0, 3] rfl rfl (SL.Pure.fieldAddr (k := 34) rfl rfl (by kernel_rfl) rfl) ?_
        refine SL.OkH.take 1 rfl rfl rfl rfl (by kernel_rfl) (by kernel_rfl) (by kernel_rfl) rfl (fun _ _ _ h => h) [0, 3] rfl rfl (by first | exact SL.Pure.load1 0 rfl rfl rfl rfl (by kernel_rfl) | exact SL.Pure.load1 1 rfl rfl rfl rfl (by kernel_rfl) | exact SL.Pure.load1 2 rfl rfl rfl rfl (by kernel_rfl) | exact SL.Pure.load1 3 rfl rfl rfl rfl (by kernel_rfl)) ?_
        refine SL.OkH.take 2 rfl rfl rfl rfl (by kernel_rfl) (by kernel_rfl) (by kernel_rfl) rfl (fun _ _ _ h => h) [0, 3] rfl rfl (SL.Pure.lenS rfl rfl rfl Try.underlying9) ?_
        refine SL.OkH.take 3 rfl rfl rfl rfl (by kernel_rfl) (by kernel_rfl) (by kernel_rfl) rfl (fun _ _ _ h => h) [0, 3] rfl rfl (SL.Pure.leq rfl rfl rfl) ?_
        refine SL.OkH.take 4 rfl rfl rfl rfl (by kernel_rfl) (by kernel_rfl) (by kernel_rfl) rfl (fun _ _ _ h => h) [0, 3] rfl rfl (SL.Pure.move rfl rfl) ?_
        refine SL.OkH.split (d := 81) rfl (fun hg81 => ?_) (fun hg81 => ?_)
        · skip
          refine SL.OkH.takeG 5 rfl rfl rfl rfl rfl rfl rfl rfl (by kernel_rfl) (by kernel_rfl) (by kernel_rfl) rfl (fun _ _ _ h => h) [0, 3] rfl rfl (SL.Pure.fieldAddr (k := 1) rfl rfl (by kernel_rfl) rfl) ?_
          refine SL.OkH.takeG 6 rfl rfl rfl rfl rfl rfl rfl rfl (by kernel_rfl) (by kernel_rfl) (by kernel_rfl) rfl (fun _ _ _ h => h) [0, 3] rfl rfl (by first | exact SL.Pure.loadA 0 (k := 32) rfl rfl rfl (by kernel_rfl) rfl (by kernel_rfl) | exact SL.Pure.loadA 1 (k := 32) rfl rfl rfl (by kernel_rfl) rfl (by kernel_rfl) | exact SL.Pure.loadA 2 (k := 32) rfl rfl rfl (by kernel_rfl) rfl (by kernel_rfl) | exact SL.Pure.loadA 3 (k := 32) rfl rfl rfl (by kernel_rfl) rfl (by kernel_rfl)) ?_
          refine SL.OkH.takeG 7 rfl rfl rfl rfl rfl rfl rfl rfl (by kernel_rfl) (by kernel_rfl) (by kernel_rfl) rfl (fun _ _ _ h => h) [0, 3] rfl rfl (by first | exact SL.Pure.loadA 0 (k := 32) rfl rfl rfl (by kernel_rfl) rfl (by kernel_rfl) | exact SL.Pure.loadA 1 (k := 32) rfl rfl rfl (by kernel_rfl) rfl (by kernel_rfl) | exact SL.Pure.loadA 2 (k := 32) rfl rfl rfl (by kernel_rfl) rfl (by kernel_rfl) | exact SL.Pure.loadA 3 (k := 32) rfl rfl rfl (by kernel_rfl) rfl (by kernel_rfl)) ?_
          refine SL.OkH.takeG 8 rfl rfl rfl rfl rfl rfl rfl rfl (by kernel_rfl) (by kernel_rfl) (by kernel_rfl) rfl (fun _ _ _ h => h) [0, 3] rfl rfl (SL.Pure.neB rfl rfl rfl Try.underlying23 Try.underlying5 (by kernel_rfl) (by kernel_rfl)) ?_
          refine SL.OkH.takeG 9 rfl rfl rfl rfl rfl rfl rfl rfl (by kernel_rfl) (by kernel_rfl) (by kernel_rfl) rfl (fun _ _ _ h => h) [0, 3] rfl rfl (SL.Pure.move rfl rfl) ?_
          refine SL.OkH.split (d := 86) rfl (fun hg86 => ?_) (fun hg86 => ?_)
          · skip
            refine SL.OkH.takeS 10 rfl rfl rfl rfl rfl rfl rfl rfl (by kernel_rfl) (by kernel_rfl) (by kernel_rfl) rfl (fun _ _ _ h => h) [0, 3] rfl rfl ?_
            refine SL.OkH.takeS 11 rfl rfl rfl rfl rfl rfl rfl rfl (by kernel_rfl) (by kernel_rfl) (by kernel_rfl) rfl (fun _ _ _ h => h) [0, 3] rfl rfl ?_
            refine SL.OkH.takeS 12 rfl rfl rfl rfl rfl rfl rfl rfl (by kernel_rfl) (by kernel_rfl) (by kernel_rfl) rfl (fun _ _ _ h => h) [0, 3] rfl rfl ?_
            refine SL.OkH.takeS 13 rfl rfl rfl rfl rfl rfl rfl rfl (by kernel_rfl) (by kernel_rfl) (by kernel_rfl) rfl (fun _ _ _ h => h) [0, 3] rfl rfl ?_
            refine SL.OkH.takeS 14 rfl rfl rfl rfl rfl rfl rfl rfl (by kernel_rfl) (by kernel_rfl) (by kernel_rfl) rfl (fun _ _ _ h => h) [0, 3] rfl rfl ?_
            refine SL.OkH.takeS 15 rfl rfl rfl rfl rfl rfl rfl rfl (by kernel_rfl) (by kernel_rfl) (by kernel_rfl) rfl (fun _ _ _ h => h) [0, 3] rfl rfl ?_
            refine SL.OkH.takeU 16 rfl rfl rfl rfl rfl rfl rfl (by kernel_rfl) (by kernel_rfl) (by kernel_rfl) rfl (fun _ _ _ h => h) [0, 3] rfl rfl ?_
            refine SL.OkH.takeU 17 rfl rfl rfl rfl rfl rfl rfl (by kernel_rfl) (by kernel_rfl) (by kernel_rfl) rfl (fun _ _ _ h => h) [0, 3] rfl rfl ?_
            refine SL.OkH.takeU 18 rfl rfl rfl rfl rfl rfl rfl (by kernel_rfl) (by kernel_rfl) (by kernel_rfl) rfl (fun _ _ _ h => h) [0, 3] rfl rfl ?_
            refine SL.OkH.takeS 19 rfl rfl rfl rfl rfl rfl rfl rfl (by kernel_rfl) (by kernel_rfl) (by kernel_rfl) rfl (fun _ _ _ h => h) [0, 3] rfl rfl ?_
            refine SL.OkH.takeG 20 rfl rfl rfl rfl rfl rfl rfl rfl (by kernel_rfl) (by kernel_rfl) (by kernel_rfl) rfl (fun _ _ _ h => h) [0, 3] rfl rfl (SL.Pure.pickT rfl rfl rfl) ?_
            refine SL.OkH.takeG 21 rfl rfl rfl rfl rfl rfl rfl rfl (by kernel_rfl) (by kernel_rfl) (by kernel_rfl) rfl (fun _ _ _ h => h) [0, 3] rfl rfl (SL.Pure.move rfl rfl) ?_
            refine SL.OkH.takeS 22 rfl rfl rfl rfl rfl rfl rfl rfl (by kernel_rfl) (by kernel_rfl) (by kernel_rfl) rfl (fun _ _ _ h => h) [0, 3] rfl rfl ?_
            refine SL.OkH.takeS 23 rfl rfl rfl rfl rfl rfl rfl rfl (by kernel_rfl) (by kernel_rfl) (by kernel_rfl) rfl (fun _ _ _ h => h) [0, 3] rfl rfl ?_
            refine SL.OkH.takeS 24 rfl rfl rfl rfl rfl rfl rfl rfl (by kernel_rfl) (by kernel_rfl) (by kernel_rfl) rfl (fun _ _ _ h => h) [0, 3] rfl rfl ?_
            refine SL.OkH.takeS 25 rfl rfl rfl rfl rfl rfl rfl rfl (by kernel_rfl) (by kernel_rfl) (by kernel_rfl) rfl (fun _ _ _ h => h) [0, 3] rfl rfl ?_
            refine SL.OkH.takeU 26 rfl rfl rfl rfl rfl rfl rfl (by kernel_rfl) (by kernel_rfl) (by kernel_rfl) rfl (fun _ _ _ h => h) [0, 3] rfl rfl ?_
            refine SL.OkH.takeU 27 rfl rfl rfl rfl rfl rfl rfl (by kernel_rfl) (by kernel_rfl) (by kernel_rfl) rfl (fun _ _ _ h => h) [0, 3] rfl rfl ?_
            refine SL.OkH.takeU 28 rfl rfl rfl rfl rfl rfl rfl (by kernel_rfl) (by kernel_rfl) (by kernel_rfl) rfl (fun _ _ _ h => h) [0, 3] rfl rfl ?_
            refine SL.OkH.takeS 29 rfl rfl rfl rfl rfl rfl rfl rfl (by kernel_rfl) (by kernel_rfl) (by kernel_rfl) rfl (fun _ _ _ h => h) [0, 3] rfl rfl ?_
            refine SL.OkH.takeG 30 rfl rfl rfl rfl rfl rfl rfl rfl (by kernel_rfl) (by kernel_rfl) (by kernel_rfl) rfl (fun _ _ _ h => h) [0, 3] rfl rfl (SL.Pure.pickT rfl rfl rfl) ?_
            refine SL.OkH.take 31 rfl rfl rfl rfl (by kernel_rfl) (by kernel_rfl) (by kernel_rfl) rfl (fun _ _ _ h => h) [0, 3] rfl rfl (SL.Pure.pickT rfl rfl rfl) ?_
            refine SL.OkH.take 32 rfl rfl rfl rfl (by kernel_rfl) (by kernel_rfl) (by kernel_rfl) rfl (fun _ _ _ h => h) [0, 3] rfl rfl (SL.Pure.move rfl rfl) ?_
            refine SL.OkH.takeG 33 rfl rfl rfl rfl rfl rfl rfl rfl (by kernel_rfl) (by kernel_rfl) (by kernel_rfl) rfl (fun _ _ _ h => h) [0, 3] rfl rfl (SL.Pure.move rfl rfl) ?_
            refine SL.OkH.takeG 34 rfl rfl rfl rfl rfl rfl rfl rfl (by kernel_rfl) (by kernel_rfl) (by kernel_rfl) rfl (fun _ _ _ h => h) [0, 3] rfl rfl (by first | exact SL.Pure.loadA 0 (k := 35) rfl rfl rfl (by kernel_rfl) rfl (by kernel_rfl) | exact SL.Pure.loadA 1 (k := 35) rfl rfl rfl (by kernel_rfl) rfl (by kernel_rfl) | exact SL.Pure.loadA 2 (k := 35) rfl rfl rfl (by kernel_rfl) rfl (by kernel_rfl) | exact SL.Pure.loadA 3 (k := 35) rfl rfl rfl (by kernel_rfl) rfl (by kernel_rfl)) ?_
            refine SL.OkH.effG 35 rfl rfl rfl rfl rfl rfl (by kernel_rfl) rfl [0, 3] (fun _ => rfl) rfl (SL.Eff.at rfl (SL.Eff.callV rfl rfl (by kernel_rfl) rfl rfl (fun w hM hK => own_c v ci f xs w))) ?_
            intro _ _
            try simp only [SL.setN, SL.putD, SL.selM, SL.nth, List.cons_append, List.nil_append]
            refine SL.OkH.effG 36 rfl rfl rfl rfl rfl rfl (by kernel_rfl) rfl [2, 3] (fun _ => rfl) rfl (SL.Eff.at rfl (SL.Eff.call [1, 2] [0, 3] rfl rfl (by kernel_rfl) rfl rfl rfl rfl (fun w hM hK => hear_eq b43 r r _ x v ci f xs (strange hti.id (by first | exact .inl (by simpa using hg86) | exact .inr (.inl ⟨by simpa using hg92, by simpa using hg98⟩) | exact .inr (.inr ⟨by simpa using hg102, by simpa using hg109⟩))).1 hok hti.inv w (hM.sel [1, 2] rfl).own))) ?_
            intro y hy
            try simp only [SL.setN, SL.putD, SL.selM, SL.nth, List.cons_append, List.nil_append]
            refine SL.OkH.takeG 37 rfl rfl rfl rfl rfl rfl rfl rfl (by kernel_rfl) (by kernel_rfl) (by kernel_rfl) rfl (fun _ _ _ h => h) [2, 3] rfl rfl (SL.Pure.eqi rfl rfl rfl) ?_
            refine SL.OkH.take 38 rfl rfl rfl rfl (by kernel_rfl) (by kernel_rfl) (by kernel_rfl) rfl (fun _ _ _ h => h) [2, 3] rfl rfl (SL.Pure.pickT rfl rfl rfl) ?_
            refine SL.OkH.done (by kernel_rfl) ?_
            refine SL.Ok.normThen ?_
            refine hK37 _ _ ?_
            refine SL.Ok.condF' rfl (by (have hne := (strange (v := v) (ci := ci) (f := f) (xs := xs) hti.id (by first | exact .inl (by simpa using hg86) | exact .inr (.inl ⟨by simpa using hg92, by simpa using hg98⟩) | exact .inr (.inr ⟨by simpa using hg102, by simpa using hg109⟩))).2; simp [hne])) ?_
            refine SL.Ok.skip' ?_
            exact SL.Ok.via (hJr11 (1 + ac % 4096, aa, y) ⟨by simp only; omega, by simp only; omega, by simp only; omega, by simp only; omega, fun h => by omega, hy⟩) [0, 1, 3] ⟨rfl, rfl, rfl, rfl, rfl, rfl, rfl, trivial⟩ rfl rfl
          · skip
            refine SL.OkH.takeG 10 rfl rfl rfl rfl rfl rfl rfl rfl (by kernel_rfl) (by kernel_rfl) (by kernel_rfl) rfl (fun _ _ _ h => h) [0, 3] rfl rfl (SL.Pure.fieldAddr (k := 33) rfl rfl (by kernel_rfl) rfl) ?_
            refine SL.OkH.takeG 11 rfl rfl rfl rfl rfl rfl rfl rfl (by kernel_rfl) (by kernel_rfl) (by kernel_rfl) rfl (fun _ _ _ h => h) [0, 3] rfl rfl (by first | exact SL.Pure.load1 0 rfl rfl rfl rfl (by kernel_rfl) | exact SL.Pure.load1 1 rfl rfl rfl rfl (by kernel_rfl) | exact SL.Pure.load1 2 rfl rfl rfl rfl (by kernel_rfl) | exact SL.Pure.load1 3 rfl rfl rfl rfl (by kernel_rfl)) ?_
            refine SL.OkH.takeG 12 rfl rfl rfl rfl rfl rfl rfl rfl (by kernel_rfl) (by kernel_rfl) (by kernel_rfl) rfl (fun _ _ _ h => h) [0, 3] rfl rfl (SL.Pure.move rfl rfl) ?_
            refine SL.OkH.effG 13 rfl rfl rfl rfl rfl rfl (by kernel_rfl) rfl [0, 3] (fun _ => rfl) rfl (SL.Eff.at rfl (SL.Eff.callV rfl rfl (by kernel_rfl) rfl rfl (fun w hM hK => recv_from b43 r x w (hM.blk (i := 1) rfl)))) ?_
            intro _ _
            try simp only [SL.setN, SL.putD, SL.selM, SL.nth, List.cons_append, List.nil_append]
            refine SL.OkH.takeG 14 rfl rfl rfl rfl rfl rfl rfl rfl (by kernel_rfl) (by kernel_rfl) (by kernel_rfl) rfl (fun _ _ _ h => h) [0, 3] rfl rfl (SL.Pure.nei rfl rfl rfl) ?_
            refine SL.OkH.takeG 15 rfl rfl rfl rfl rfl rfl rfl rfl (by kernel_rfl) (by kernel_rfl) (by kernel_rfl) rfl (fun _ _ _ h => h) [0, 3] rfl rfl (SL.Pure.move rfl rfl) ?_
            refine SL.OkH.split (d := 92) rfl (fun hg92 => ?_) (fun hg92 => ?_)
            · skip
              refine SL.OkH.takeG 16 rfl rfl rfl rfl rfl rfl rfl rfl (by kernel_rfl) (by kernel_rfl) (by kernel_rfl) rfl (fun _ _ _ h => h) [0, 3] rfl rfl (SL.Pure.fieldAddr (k := 0) rfl rfl (by kernel_rfl) rfl) ?_
              refine SL.OkH.takeG 17 rfl rfl rfl rfl rfl rfl rfl rfl (by kernel_rfl) (by kernel_rfl) (by kernel_rfl) rfl (fun _ _ _ h => h) [0, 3] rfl rfl (by first | exact SL.Pure.load1 0 rfl rfl rfl rfl (by kernel_rfl) | exact SL.Pure.load1 1 rfl rfl rfl rfl (by kernel_rfl) | exact SL.Pure.load1 2 rfl rfl rfl rfl (by kernel_rfl) | exact SL.Pure.load1 3 rfl rfl rfl rfl (by kernel_rfl)) ?_
              refine SL.OkH.takeG 18 rfl rfl rfl rfl rfl rfl rfl rfl (by kernel_rfl) (by kernel_rfl) (by kernel_rfl) rfl (fun _ _ _ h => h) [0, 3] rfl rfl (SL.Pure.eqi rfl rfl rfl) ?_
              refine SL.OkH.takeG 19 rfl rfl rfl rfl rfl rfl rfl rfl (by kernel_rfl) (by kernel_rfl) (by kernel_rfl) rfl (fun _ _ _ h => h) [0, 3] rfl rfl (SL.Pure.pickT rfl rfl rfl) ?_
              refine SL.OkH.takeG 20 rfl rfl rfl rfl rfl rfl rfl rfl (by kernel_rfl) (by kernel_rfl) (by kernel_rfl) rfl (fun _ _ _ h => h) [0, 3] rfl rfl (SL.Pure.pickF rfl rfl rfl) ?_
              refine SL.OkH.takeG 21 rfl rfl rfl rfl rfl rfl rfl rfl (by kernel_rfl) (by kernel_rfl) (by kernel_rfl) rfl (fun _ _ _ h => h) [0, 3] rfl rfl (SL.Pure.move rfl rfl) ?_
              refine SL.OkH.split (d := 98) rfl (fun hg98 => ?_) (fun hg98 => ?_)
              · skip
                refine SL.OkH.takeS 22 rfl rfl rfl rfl rfl rfl rfl rfl (by kernel_rfl) (by kernel_rfl) (by kernel_rfl) rfl (fun _ _ _ h => h) [0, 3] rfl rfl ?_
                refine SL.OkH.takeS 23 rfl rfl rfl rfl rfl rfl rfl rfl (by kernel_rfl) (by kernel_rfl) (by kernel_rfl) rfl (fun _ _ _ h => h) [0, 3] rfl rfl ?_
                refine SL.OkH.takeS 24 rfl rfl rfl rfl rfl rfl rfl rfl (by kernel_rfl) (by kernel_rfl) (by kernel_rfl) rfl (fun _ _ _ h => h) [0, 3] rfl rfl ?_
                refine SL.OkH.takeS 25 rfl rfl rfl rfl rfl rfl rfl rfl (by kernel_rfl) (by kernel_rfl) (by kernel_rfl) rfl (fun _ _ _ h => h) [0, 3] rfl rfl ?_
                refine SL.OkH.takeU 26 rfl rfl rfl rfl rfl rfl rfl (by kernel_rfl) (by kernel_rfl) (by kernel_rfl) rfl (fun _ _ _ h => h) [0, 3] rfl rfl ?_
                refine SL.OkH.takeU 27 rfl rfl rfl rfl rfl rfl rfl (by kernel_rfl) (by kernel_rfl) (by kernel_rfl) rfl (fun _ _ _ h => h) [0, 3] rfl rfl ?_
                refine SL.OkH.takeU 28 rfl rfl rfl rfl rfl rfl rfl (by kernel_rfl) (by kernel_rfl) (by kernel_rfl) rfl (fun _ _ _ h => h) [0, 3] rfl rfl ?_
                refine SL.OkH.takeS 29 rfl rfl rfl rfl rfl rfl rfl rfl (by kernel_rfl) (by kernel_rfl) (by kernel_rfl) rfl (fun _ _ _ h => h) [0, 3] rfl rfl ?_
                refine SL.OkH.takeG 30 rfl rfl rfl rfl rfl rfl rfl rfl (by kernel_rfl) (by kernel_rfl) (by kernel_rfl) rfl (fun _ _ _ h => h) [0, 3] rfl rfl (SL.Pure.pickT rfl rfl rfl) ?_
                refine SL.OkH.take 31 rfl rfl rfl rfl (by kernel_rfl) (by kernel_rfl) (by kernel_rfl) rfl (fun _ _ _ h => h) [0, 3] rfl rfl (SL.Pure.pickT rfl rfl rfl) ?_
                refine SL.OkH.take 32 rfl rfl rfl rfl (by kernel_rfl) (by kernel_rfl) (by kernel_rfl) rfl (fun _ _ _ h => h) [0, 3] rfl rfl (SL.Pure.move rfl rfl) ?_
                refine SL.OkH.takeG 33 rfl rfl rfl rfl rfl rfl rfl rfl (by kernel_rfl) (by kernel_rfl) (by kernel_rfl) rfl (fun _ _ _ h => h) [0, 3] rfl rfl (SL.Pure.move rfl rfl) ?_
                refine SL.OkH.takeG 34 rfl rfl rfl rfl rfl rfl rfl rfl (by kernel_rfl) (by kernel_rfl) (by kernel_rfl) rfl (fun _ _ _ h => h) [0, 3] rfl rfl (by first | exact SL.Pure.loadA 0 (k := 35) rfl rfl rfl (by kernel_rfl) rfl (by kernel_rfl) | exact SL.Pure.loadA 1 (k := 35) rfl rfl rfl (by kernel_rfl) rfl (by kernel_rfl) | exact SL.Pure.loadA 2 (k := 35) rfl rfl rfl (by kernel_rfl) rfl (by kernel_rfl) | exact SL.Pure.loadA 3 (k := 35) rfl rfl rfl (by kernel_rfl) rfl (by kernel_rfl)) ?_
                refine SL.OkH.effG 35 rfl rfl rfl rfl rfl rfl (by kernel_rfl) rfl [0, 3] (fun _ => rfl) rfl (SL.Eff.at rfl (SL.Eff.callV rfl rfl (by kernel_rfl) rfl rfl (fun w hM hK => own_c v ci f xs w))) ?_
                intro _ _
                try simp only [SL.setN, SL.putD, SL.selM, SL.nth, List.cons_append, List.nil_append]
                refine SL.OkH.effG 36 rfl rfl rfl rfl rfl rfl (by kernel_rfl) rfl [2, 3] (fun _ => rfl) rfl (SL.Eff.at rfl (SL.Eff.call [1, 2] [0, 3] rfl rfl (by kernel_rfl) rfl rfl rfl rfl (fun w hM hK => hear_eq b43 r r _ x v ci f xs (strange hti.id (by first | exact .inl (by simpa using hg86) | exact .inr (.inl ⟨by simpa using hg92, by simpa using hg98⟩) | exact .inr (.inr ⟨by simpa using hg102, by simpa using hg109⟩))).1 hok hti.inv w (hM.sel [1, 2] rfl).own))) ?_
                intro y hy
                try simp only [SL.setN, SL.putD, SL.selM, SL.nth, List.cons_append, List.nil_append]
                refine SL.OkH.takeG 37 rfl rfl rfl rfl rfl rfl rfl rfl (by kernel_rfl) (by kernel_rfl) (by kernel_rfl) rfl (fun _ _ _ h => h) [2, 3] rfl rfl (SL.Pure.eqi rfl rfl rfl) ?_
                refine SL.OkH.take 38 rfl rfl rfl rfl (by kernel_rfl) (by kernel_rfl) (by kernel_rfl) rfl (fun _ _ _ h => h) [2, 3] rfl rfl (SL.Pure.pickT rfl rfl rfl) ?_
                refine SL.OkH.done (by kernel_rfl) ?_
                refine SL.Ok.normThen ?_
                refine hK37 _ _ ?_
                refine SL.Ok.condF' rfl (by (have hne := (strange (v := v) (ci := ci) (f := f) (xs := xs) hti.id (by first | exact .inl (by simpa using hg86) | exact .inr (.inl ⟨by simpa using hg92, by simpa using hg98⟩) | exact .inr (.inr ⟨by simpa using hg102, by simpa using hg109⟩))).2; simp [hne])) ?_
                refine SL.Ok.skip' ?_
                exact SL.Ok.via (hJr11 (1 + ac % 4096, aa, y) ⟨by simp only; omega, by simp only; omega, by simp only; omega, by simp only; omega, fun h => by omega, hy⟩) [0, 1, 3] ⟨rfl, rfl, rfl, rfl, rfl, rfl, rfl, trivial⟩ rfl rfl
              · skip
                refine SL.OkH.takeG 22 rfl rfl rfl rfl rfl rfl rfl rfl (by kernel_rfl) (by kernel_rfl) (by kernel_rfl) rfl (fun _ _ _ h => h) [0, 3] rfl rfl (SL.Pure.fieldAddr (k := 0) rfl rfl (by kernel_rfl) rfl) ?_
                refine SL.OkH.takeG 23 rfl rfl rfl rfl rfl rfl rfl rfl (by kernel_rfl) (by kernel_rfl) (by kernel_rfl) rfl (fun _ _ _ h => h) [0, 3] rfl rfl (by first | exact SL.Pure.load1 0 rfl rfl rfl rfl (by kernel_rfl) | exact SL.Pure.load1 1 rfl rfl rfl rfl (by kernel_rfl) | exact SL.Pure.load1 2 rfl rfl rfl rfl (by kernel_rfl) | exact SL.Pure.load1 3 rfl rfl rfl rfl (by kernel_rfl)) ?_
                refine SL.OkH.takeG 24 rfl rfl rfl rfl rfl rfl rfl rfl (by kernel_rfl) (by kernel_rfl) (by kernel_rfl) rfl (fun _ _ _ h => h) [0, 3] rfl rfl (SL.Pure.nei rfl rfl rfl) ?_
                refine SL.OkH.takeG 25 rfl rfl rfl rfl rfl rfl rfl rfl (by kernel_rfl) (by kernel_rfl) (by kernel_rfl) rfl (fun _ _ _ h => h) [0, 3] rfl rfl (SL.Pure.move rfl rfl) ?_
                refine SL.OkH.split (d := 102) rfl (fun hg102 => ?_) (fun hg102 => ?_)
                · skip
                  refine SL.OkH.takeG 26 rfl rfl rfl rfl rfl rfl rfl rfl (by kernel_rfl) (by kernel_rfl) (by kernel_rfl) rfl (fun _ _ _ h => h) [0, 3] rfl rfl (SL.Pure.fieldAddr (k := 0) rfl rfl (by kernel_rfl) rfl) ?_
                  refine SL.OkH.takeG 27 rfl rfl rfl rfl rfl rfl rfl rfl (by kernel_rfl) (by kernel_rfl) (by kernel_rfl) rfl (fun _ _ _ h => h) [0, 3] rfl rfl (by first | exact SL.Pure.load1 0 rfl rfl rfl rfl (by kernel_rfl) | exact SL.Pure.load1 1 rfl rfl rfl rfl (by kernel_rfl) | exact SL.Pure.load1 2 rfl rfl rfl rfl (by kernel_rfl) | exact SL.Pure.load1 3 rfl rfl rfl rfl (by kernel_rfl)) ?_
                  refine SL.OkH.takeG 28 rfl rfl rfl rfl rfl rfl rfl rfl (by kernel_rfl) (by kernel_rfl) (by kernel_rfl) rfl (fun _ _ _ h => h) [0, 3] rfl rfl (SL.Pure.nei rfl rfl rfl) ?_
                  refine SL.OkH.takeG 29 rfl rfl rfl rfl rfl rfl rfl rfl (by kernel_rfl) (by kernel_rfl) (by kernel_rfl) rfl (fun _ _ _ h => h) [0, 3] rfl rfl (SL.Pure.pickT rfl rfl rfl) ?_
                  refine SL.OkH.takeG 30 rfl rfl rfl rfl rfl rfl rfl rfl (by kernel_rfl) (by kernel_rfl) (by kernel_rfl) rfl (fun _ _ _ h => h) [0, 3] rfl rfl (SL.Pure.pickF rfl rfl rfl) ?_
                  refine SL.OkH.take 31 rfl rfl rfl rfl (by kernel_rfl) (by kernel_rfl) (by kernel_rfl) rfl (fun _ _ _ h => h) [0, 3] rfl rfl (SL.Pure.pickT rfl rfl rfl) ?_
                  refine SL.OkH.take 32 rfl rfl rfl rfl (by kernel_rfl) (by kernel_rfl) (by kernel_rfl) rfl (fun _ _ _ h => h) [0, 3] rfl rfl (SL.Pure.move rfl rfl) ?_
                  refine SL.OkH.split (d := 109) rfl (fun hg109 => ?_) (fun hg109 => ?_)
                  · skip
                    refine SL.OkH.takeG 33 rfl rfl rfl rfl rfl rfl rfl rfl (by kernel_rfl) (by kernel_rfl) (by kernel_rfl) rfl (fun _ _ _ h => h) [0, 3] rfl rfl (SL.Pure.move rfl rfl) ?_
                    refine SL.OkH.takeG 34 rfl rfl rfl rfl rfl rfl rfl rfl (by kernel_rfl) (by kernel_rfl) (by kernel_rfl) rfl (fun _ _ _ h => h) [0, 3] rfl rfl (by first | exact SL.Pure.loadA 0 (k := 35) rfl rfl rfl (by kernel_rfl) rfl (by kernel_rfl) | exact SL.Pure.loadA 1 (k := 35) rfl rfl rfl (by kernel_rfl) rfl (by kernel_rfl) | exact SL.Pure.loadA 2 (k := 35) rfl rfl rfl (by kernel_rfl) rfl (by kernel_rfl) | exact SL.Pure.loadA 3 (k := 35) rfl rfl rfl (by kernel_rfl) rfl (by kernel_rfl)) ?_
                    refine SL.OkH.effG 35 rfl rfl rfl rfl rfl rfl (by kernel_rfl) rfl [0, 3] (fun _ => rfl) rfl (SL.Eff.at rfl (SL.Eff.callV rfl rfl (by kernel_rfl) rfl rfl (fun w hM hK => own_c v ci f xs w))) ?_
                    intro _ _
                    try simp only [SL.setN, SL.putD, SL.selM, SL.nth, List.cons_append, List.nil_append]
                    refine SL.OkH.effG 36 rfl rfl rfl rfl rfl rfl (by kernel_rfl) rfl [2, 3] (fun _ => rfl) rfl (SL.Eff.at rfl (SL.Eff.call [1, 2] [0, 3] rfl rfl (by kernel_rfl) rfl rfl rfl rfl (fun w hM hK => hear_eq b43 r r _ x v ci f xs (strange hti.id (by first | exact .inl (by simpa using hg86) | exact .inr (.inl ⟨by simpa using hg92, by simpa using hg98⟩) | exact .inr (.inr ⟨by simpa using hg102, by simpa using hg109⟩))).1 hok hti.inv w (hM.sel [1, 2] rfl).own))) ?_
                    intro y hy
                    try simp only [SL.setN, SL.putD, SL.selM, SL.nth, List.cons_append, List.nil_append]
                    refine SL.OkH.takeG 37 rfl rfl rfl rfl rfl rfl rfl rfl (by kernel_rfl) (by kernel_rfl) (by kernel_rfl) rfl (fun _ _ _ h => h) [2, 3] rfl rfl (SL.Pure.eqi rfl rfl rfl) ?_
                    refine SL.OkH.take 38 rfl rfl rfl rfl (by kernel_rfl) (by kernel_rfl) (by kernel_rfl) rfl (fun _ _ _ h => h) [2, 3] rfl rfl (SL.Pure.pickT rfl rfl rfl) ?_
                    refine SL.OkH.done (by kernel_rfl) ?_
                    refine SL.Ok.normThen ?_
                    refine hK37 _ _ ?_
                    refine SL.Ok.condF' rfl (by (have hne := (strange (v := v) (ci := ci) (f := f) (xs := xs) hti.id (by first | exact .inl (by simpa using hg86) | exact .inr (.inl ⟨by simpa using hg92, by simpa using hg98⟩) | exact .inr (.inr ⟨by simpa using hg102, by simpa using hg109⟩))).2; simp [hne])) ?_
                    refine SL.Ok.skip' ?_
                    exact SL.Ok.via (hJr11 (1 + ac % 4096, aa, y) ⟨by simp only; omega, by simp only; omega, by simp only; omega, by simp only; omega, fun h => by omega, hy⟩) [0, 1, 3] ⟨rfl, rfl, rfl, rfl, rfl, rfl, rfl, trivial⟩ rfl rfl
                  · skip
                    refine SL.OkH.takeS 33 rfl rfl rfl rfl rfl rfl rfl rfl (by kernel_rfl) (by kernel_rfl) (by kernel_rfl) rfl (fun _ _ _ h => h) [0, 3] rfl rfl ?_
                    refine SL.OkH.takeS 34 rfl rfl rfl rfl rfl rfl rfl rfl (by kernel_rfl) (by kernel_rfl) (by kernel_rfl) rfl (fun _ _ _ h => h) [0, 3] rfl rfl ?_
                    refine SL.OkH.takeS 35 rfl rfl rfl rfl rfl rfl rfl rfl (by kernel_rfl) (by kernel_rfl) (by kernel_rfl) rfl (fun _ _ _ h => h) [0, 3] rfl rfl ?_
                    refine SL.OkH.takeS 36 rfl rfl rfl rfl rfl rfl rfl rfl (by kernel_rfl) (by kernel_rfl) (by kernel_rfl) rfl (fun _ _ _ h => h) [0, 3] rfl rfl ?_
                    refine SL.OkH.takeS 37 rfl rfl rfl rfl rfl rfl rfl rfl (by kernel_rfl) (by kernel_rfl) (by kernel_rfl) rfl (fun _ _ _ h => h) [0, 3] rfl rfl ?_
                    refine SL.OkH.take 38 rfl rfl rfl rfl (by kernel_rfl) (by kernel_rfl) (by kernel_rfl) rfl (fun _ _ _ h => h) [0, 3] rfl rfl (SL.Pure.pickF rfl rfl rfl) ?_
                    refine SL.OkH.done (by kernel_rfl) ?_
                    refine SL.Ok.normThen ?_
                    refine hK37 _ _ ?_
                    refine SL.Ok.condF rfl ?_
                    refine SL.Ok.skip' ?_
                    exact SL.Ok.via (hJr11 (1 + ac % 4096, aa, x) ⟨by simp only; omega, by simp only; omega, by simp only; omega, by simp only; omega, fun h => by omega, hok⟩) [1, 2, 3] ⟨rfl, rfl, rfl, rfl, rfl, rfl, rfl, trivial⟩ rfl rfl
                · skip
                  refine SL.OkH.takeS 26 rfl rfl rfl rfl rfl rfl rfl rfl (by kernel_rfl) (by kernel_rfl) (by kernel_rfl) rfl (fun _ _ _ h => h) [0, 3] rfl rfl ?_
                  refine SL.OkH.takeS 27 rfl rfl rfl rfl rfl rfl rfl rfl (by kernel_rfl) (by kernel_rfl) (by kernel_rfl) rfl (fun _ _ _ h => h) [0, 3] rfl rfl ?_
                  refine SL.OkH.takeS 28 rfl rfl rfl rfl rfl rfl rfl rfl (by kernel_rfl) (by kernel_rfl) (by kernel_rfl) rfl (fun _ _ _ h => h) [0, 3] rfl rfl ?_
                  refine SL.OkH.takeG 29 rfl rfl rfl rfl rfl rfl rfl rfl (by kernel_rfl) (by kernel_rfl) (by kernel_rfl) rfl (fun _ _ _ h => h) [0, 3] rfl rfl (SL.Pure.pickF rfl rfl rfl) ?_
                  refine SL.OkH.takeG 30 rfl rfl rfl rfl rfl rfl rfl rfl (by kernel_rfl) (by kernel_rfl) (by kernel_rfl) rfl (fun _ _ _ h => h) [0, 3] rfl rfl (SL.Pure.pickF rfl rfl rfl) ?_
                  refine SL.OkH.take 31 rfl rfl rfl rfl (by kernel_rfl) (by kernel_rfl) (by kernel_rfl) rfl (fun _ _ _ h => h) [0, 3] rfl rfl (SL.Pure.pickT rfl rfl rfl) ?_
                  refine SL.OkH.take 32 rfl rfl rfl rfl (by kernel_rfl) (by kernel_rfl) (by kernel_rfl) rfl (fun _ _ _ h => h) [0, 3] rfl rfl (SL.Pure.move rfl rfl) ?_
                  refine SL.OkH.takeS 33 rfl rfl rfl rfl rfl rfl rfl rfl (by kernel_rfl) (by kernel_rfl) (by kernel_rfl) rfl (fun _ _ _ h => h) [0, 3] rfl rfl ?_
                  refine SL.OkH.takeS 34 rfl rfl rfl rfl rfl rfl rfl rfl (by kernel_rfl) (by kernel_rfl) (by kernel_rfl) rfl (fun _ _ _ h => h) [0, 3] rfl rfl ?_
                  refine SL.OkH.takeS 35 rfl rfl rfl rfl rfl rfl rfl rfl (by kernel_rfl) (by kernel_rfl) (by kernel_rfl) rfl (fun _ _ _ h => h) [0, 3] rfl rfl ?_
                  refine SL.OkH.takeS 36 rfl rfl rfl rfl rfl rfl rfl rfl (by kernel_rfl) (by kernel_rfl) (by kernel_rfl) rfl (fun _ _ _ h => h) [0, 3] rfl rfl ?_
                  refine SL.OkH.takeS 37 rfl rfl rfl rfl rfl rfl rfl rfl (by kernel_rfl) (by kernel_rfl) (by kernel_rfl) rfl (fun _ _ _ h => h) [0, 3] rfl rfl ?_
                  refine SL.OkH.take 38 rfl rfl rfl rfl (by kernel_rfl) (by kernel_rfl) (by kernel_rfl) rfl (fun _ _ _ h => h) [0, 3] rfl rfl (SL.Pure.pickF rfl rfl rfl) ?_
                  refine SL.OkH.done (by kernel_rfl) ?_
                  refine SL.Ok.normThen ?_
                  refine hK37 _ _ ?_
                  refine SL.Ok.condF rfl ?_
                  refine SL.Ok.skip' ?_
                  exact SL.Ok.via (hJr11 (1 + ac % 4096, aa, x) ⟨by simp only; omega, by simp only; omega, by simp only; omega, by simp only; omega, fun h => by omega, hok⟩) [1, 2, 3] ⟨rfl, rfl, rfl, rfl, rfl, rfl, rfl, trivial⟩ rfl rfl
            · skip
              refine SL.OkH.takeS 16 rfl rfl rfl rfl rfl rfl rfl rfl (by kernel_rfl) (by kernel_rfl) (by kernel_rfl) rfl (fun _ _ _ h => h) [0, 3] rfl rfl ?_
              refine SL.OkH.takeS 17 rfl rfl rfl rfl rfl rfl rfl rfl (by kernel_rfl) (by kernel_rfl) (by kernel_rfl) rfl (fun _ _ _ h => h) [0, 3] rfl rfl ?_
              refine SL.OkH.takeS 18 rfl rfl rfl rfl rfl rfl rfl rfl (by kernel_rfl) (by kernel_rfl) (by kernel_rfl) rfl (fun _ _ _ h => h) [0, 3] rfl rfl ?_
              refine SL.OkH.takeG 19 rfl rfl rfl rfl rfl rfl rfl rfl (by kernel_rfl) (by kernel_rfl) (by kernel_rfl) rfl (fun _ _ _ h => h) [0, 3] rfl rfl (SL.Pure.pickF rfl rfl rfl) ?_
              refine SL.OkH.takeG 20 rfl rfl rfl rfl rfl rfl rfl rfl (by kernel_rfl) (by kernel_rfl) (by kernel_rfl) rfl (fun _ _ _ h => h) [0, 3] rfl rfl (SL.Pure.pickF rfl rfl rfl) ?_
              refine SL.OkH.takeG 21 rfl rfl rfl rfl rfl rfl rfl rfl (by kernel_rfl) (by kernel_rfl) (by kernel_rfl) rfl (fun _ _ _ h => h) [0, 3] rfl rfl (SL.Pure.move rfl rfl) ?_
              refine SL.OkH.takeG 22 rfl rfl rfl rfl rfl rfl rfl rfl (by kernel_rfl) (by kernel_rfl) (by kernel_rfl) rfl (fun _ _ _ h => h) [0, 3] rfl rfl (SL.Pure.fieldAddr (k := 0) rfl rfl (by kernel_rfl) rfl) ?_
              refine SL.OkH.takeG 23 rfl rfl rfl rfl rfl rfl rfl rfl (by kernel_rfl) (by kernel_rfl) (by kernel_rfl) rfl (fun _ _ _ h => h) [0, 3] rfl rfl (by first | exact SL.Pure.load1 0 rfl rfl rfl rfl (by kernel_rfl) | exact SL.Pure.load1 1 rfl rfl rfl rfl (by kernel_rfl) | exact SL.Pure.load1 2 rfl rfl rfl rfl (by kernel_rfl) | exact SL.Pure.load1 3 rfl rfl rfl rfl (by kernel_rfl)) ?_
              refine SL.OkH.takeG 24 rfl rfl rfl rfl rfl rfl rfl rfl (by kernel_rfl) (by kernel_rfl) (by kernel_rfl) rfl (fun _ _ _ h => h) [0, 3] rfl rfl (SL.Pure.nei rfl rfl rfl) ?_
              refine SL.OkH.takeG 25 rfl rfl rfl rfl rfl rfl rfl rfl (by kernel_rfl) (by kernel_rfl) (by kernel_rfl) rfl (fun _ _ _ h => h) [0, 3] rfl rfl (SL.Pure.move rfl rfl) ?_
              refine SL.OkH.split (d := 102) rfl (fun hg102 => ?_) (fun hg102 => ?_)
              · skip
                refine SL.OkH.takeG 26 rfl rfl rfl rfl rfl rfl rfl rfl (by kernel_rfl) (by kernel_rfl) (by kernel_rfl) rfl (fun _ _ _ h => h) [0, 3] rfl rfl (SL.Pure.fieldAddr (k := 0) rfl rfl (by kernel_rfl) rfl) ?_
                refine SL.OkH.takeG 27 rfl rfl rfl rfl rfl rfl rfl rfl (by kernel_rfl) (by kernel_rfl) (by kernel_rfl) rfl (fun _ _ _ h => h) [0, 3] rfl rfl (by first | exact SL.Pure.load1 0 rfl rfl rfl rfl (by kernel_rfl) | exact SL.Pure.load1 1 rfl rfl rfl rfl (by kernel_rfl) | exact SL.Pure.load1 2 rfl rfl rfl rfl (by kernel_rfl) | exact SL.Pure.load1 3 rfl rfl rfl rfl (by kernel_rfl)) ?_
                refine SL.OkH.takeG 28 rfl rfl rfl rfl rfl rfl rfl rfl (by kernel_rfl) (by kernel_rfl) (by kernel_rfl) rfl (fun _ _ _ h => h) [0, 3] rfl rfl (SL.Pure.nei rfl rfl rfl) ?_
                refine SL.OkH.takeG 29 rfl rfl rfl rfl rfl rfl rfl rfl (by kernel_rfl) (by kernel_rfl) (by kernel_rfl) rfl (fun _ _ _ h => h) [0, 3] rfl rfl (SL.Pure.pickT rfl rfl rfl) ?_
                refine SL.OkH.takeG 30 rfl rfl rfl rfl rfl rfl rfl rfl (by kernel_rfl) (by kernel_rfl) (by kernel_rfl) rfl (fun _ _ _ h => h) [0, 3] rfl rfl (SL.Pure.pickF rfl rfl rfl) ?_
                refine SL.OkH.take 31 rfl rfl rfl rfl (by kernel_rfl) (by kernel_rfl) (by kernel_rfl) rfl (fun _ _ _ h => h) [0, 3] rfl rfl (SL.Pure.pickT rfl rfl rfl) ?_
                refine SL.OkH.take 32 rfl rfl rfl rfl (by kernel_rfl) (by kernel_rfl) (by kernel_rfl) rfl (fun _ _ _ h => h) [0, 3] rfl rfl (SL.Pure.move rfl rfl) ?_
                refine SL.OkH.split (d := 109) rfl (fun hg109 => ?_) (fun hg109 => ?_)
                · skip
                  refine SL.OkH.takeG 33 rfl rfl rfl rfl rfl rfl rfl rfl (by kernel_rfl) (by kernel_rfl) (by kernel_rfl) rfl (fun _ _ _ h => h) [0, 3] rfl rfl (SL.Pure.move rfl rfl) ?_
                  refine SL.OkH.takeG 34 rfl rfl rfl rfl rfl rfl rfl rfl (by kernel_rfl) (by kernel_rfl) (by kernel_rfl) rfl (fun _ _ _ h => h) [0, 3] rfl rfl (by first | exact SL.Pure.loadA 0 (k := 35) rfl rfl rfl (by kernel_rfl) rfl (by kernel_rfl) | exact SL.Pure.loadA 1 (k := 35) rfl rfl rfl (by kernel_rfl) rfl (by kernel_rfl) | exact SL.Pure.loadA 2 (k := 35) rfl rfl rfl (by kernel_rfl) rfl (by kernel_rfl) | exact SL.Pure.loadA 3 (k := 35) rfl rfl rfl (by kernel_rfl) rfl (by kernel_rfl)) ?_
                  refine SL.OkH.effG 35 rfl rfl rfl rfl rfl rfl (by kernel_rfl) rfl [0, 3] (fun _ => rfl) rfl (SL.Eff.at rfl (SL.Eff.callV rfl rfl (by kernel_rfl) rfl rfl (fun w hM hK => own_c v ci f xs w))) ?_
                  intro _ _
                  try simp only [SL.setN, SL.putD, SL.selM, SL.nth, List.cons_append, List.nil_append]
                  refine SL.OkH.effG 36 rfl rfl rfl rfl rfl rfl (by kernel_rfl) rfl [2, 3] (fun _ => rfl) rfl (SL.Eff.at rfl (SL.Eff.call [1, 2] [0, 3] rfl rfl (by kernel_rfl) rfl rfl rfl rfl (fun w hM hK => hear_eq b43 r r _ x v ci f xs (strange hti.id (by first | exact .inl (by simpa using hg86) | exact .inr (.inl ⟨by simpa using hg92, by simpa using hg98⟩) | exact .inr (.inr ⟨by simpa using hg102, by simpa using hg109⟩))).1 hok hti.inv w (hM.sel [1, 2] rfl).own))) ?_
                  intro y hy
                  try simp only [SL.setN, SL.putD, SL.selM, SL.nth, List.cons_append, List.nil_append]
                  refine SL.OkH.takeG 37 rfl rfl rfl rfl rfl rfl rfl rfl (by kernel_rfl) (by kernel_rfl) (by kernel_rfl) rfl (fun _ _ _ h => h) [2, 3] rfl rfl (SL.Pure.eqi rfl rfl rfl) ?_
                  refine SL.OkH.take 38 rfl rfl rfl rfl (by kernel_rfl) (by kernel_rfl) (by kernel_rfl) rfl (fun _ _ _ h => h) [2, 3] rfl rfl (SL.Pure.pickT rfl rfl rfl) ?_
                  refine SL.OkH.done (by kernel_rfl) ?_
                  refine SL.Ok.normThen ?_
                  refine hK37 _ _ ?_
                  refine SL.Ok.condF' rfl (by (have hne := (strange (v := v) (ci := ci) (f := f) (xs := xs) hti.id (by first | exact .inl (by simpa using hg86) | exact .inr (.inl ⟨by simpa using hg92, by simpa using hg98⟩) | exact .inr (.inr ⟨by simpa using hg102, by simpa using hg109⟩))).2; simp [hne])) ?_
                  refine SL.Ok.skip' ?_
                  exact SL.Ok.via (hJr11 (1 + ac % 4096, aa, y) ⟨by simp only; omega, by simp only; omega, by simp only; omega, by simp only; omega, fun h => by omega, hy⟩) [0, 1, 3] ⟨rfl, rfl, rfl, rfl, rfl, rfl, rfl, trivial⟩ rfl rfl
                · skip
                  refine SL.OkH.takeS 33 rfl rfl rfl rfl rfl rfl rfl rfl (by kernel_rfl) (by kernel_rfl) (by kernel_rfl) rfl (fun _ _ _ h => h) [0, 3] rfl rfl ?_
                  refine SL.OkH.takeS 34 rfl rfl rfl rfl rfl rfl rfl rfl (by kernel_rfl) (by kernel_rfl) (by kernel_rfl) rfl (fun _ _ _ h => h) [0, 3] rfl rfl ?_
                  refine SL.OkH.takeS 35 rfl rfl rfl rfl rfl rfl rfl rfl (by kernel_rfl) (by kernel_rfl) (by kernel_rfl) rfl (fun _ _ _ h => h) [0, 3] rfl rfl ?_
                  refine SL.OkH.takeS 36 rfl rfl rfl rfl rfl rfl rfl rfl (by kernel_rfl) (by kernel_rfl) (by kernel_rfl) rfl (fun _ _ _ h => h) [0, 3] rfl rfl ?_
                  refine SL.OkH.takeS 37 rfl rfl rfl rfl rfl rfl rfl rfl (by kernel_rfl) (by kernel_rfl) (by kernel_rfl) rfl (fun _ _ _ h => h) [0, 3] rfl rfl ?_
                  refine SL.OkH.take 38 rfl rfl rfl rfl (by kernel_rfl) (by kernel_rfl) (by kernel_rfl) rfl (fun _ _ _ h => h) [0, 3] rfl rfl (SL.Pure.pickF rfl rfl rfl) ?_
                  refine SL.OkH.done (by kernel_rfl) ?_
                  refine SL.Ok.normThen ?_
                  refine hK37 _ _ ?_
                  refine SL.Ok.condF rfl ?_
                  refine SL.Ok.skip' ?_
                  exact SL.Ok.via (hJr11 (1 + ac % 4096, aa, x) ⟨by simp only; omega, by simp only; omega, by simp only; omega, by simp only; omega, fun h => by omega, hok⟩) [1, 2, 3] ⟨rfl, rfl, rfl, rfl, rfl, rfl, rfl, trivial⟩ rfl rfl
              · skip
                refine SL.OkH.takeS 26 rfl rfl rfl rfl rfl rfl rfl rfl (by kernel_rfl) (by kernel_rfl) (by kernel_rfl) rfl (fun _ _ _ h => h) [0, 3] rfl rfl ?_
                refine SL.OkH.takeS 27 rfl rfl rfl rfl rfl rfl rfl rfl (by kernel_rfl) (by kernel_rfl) (by kernel_rfl) rfl (fun _ _ _ h => h) [0, 3] rfl rfl ?_
                refine SL.OkH.takeS 28 rfl rfl rfl rfl rfl rfl rfl rfl (by kernel_rfl) (by kernel_rfl) (by kernel_rfl) rfl (fun _ _ _ h => h) [0, 3] rfl rfl ?_
                refine SL.OkH.takeG 29 rfl rfl rfl rfl rfl rfl rfl rfl (by kernel_rfl) (by kernel_rfl) (by kernel_rfl) rfl (fun _ _ _ h => h) [0, 3] rfl rfl (SL.Pure.pickF rfl rfl rfl) ?_
                refine SL.OkH.takeG 30 rfl rfl rfl rfl rfl rfl rfl rfl (by kernel_rfl) (by kernel_rfl) (by kernel_rfl) rfl (fun _ _ _ h => h) [0, 3] rfl rfl (SL.Pure.pickF rfl rfl rfl) ?_
                refine SL.OkH.take 31 rfl rfl rfl rfl (by kernel_rfl) (by kernel_rfl) (by kernel_rfl) rfl (fun _ _ _ h => h) [0, 3] rfl rfl (SL.Pure.pickT rfl rfl rfl) ?_
                refine SL.OkH.take 32 rfl rfl rfl rfl (by kernel_rfl) (by kernel_rfl) (by kernel_rfl) rfl (fun _ _ _ h => h) [0, 3] rfl rfl (SL.Pure.move rfl rfl) ?_
                refine SL.OkH.takeS 33 rfl rfl rfl rfl rfl rfl rfl rfl (by kernel_rfl) (by kernel_rfl) (by kernel_rfl) rfl (fun _ _ _ h => h) [0, 3] rfl rfl ?_
                refine SL.OkH.takeS 34 rfl rfl rfl rfl rfl rfl rfl rfl (by kernel_rfl) (by kernel_rfl) (by kernel_rfl) rfl (fun _ _ _ h => h) [0, 3] rfl rfl ?_
                refine SL.OkH.takeS 35 rfl rfl rfl rfl rfl rfl rfl rfl (by kernel_rfl) (by kernel_rfl) (by kernel_rfl) rfl (fun _ _ _ h => h) [0, 3] rfl rfl ?_
                refine SL.OkH.takeS 36 rfl rfl rfl rfl rfl rfl rfl rfl (by kernel_rfl) (by kernel_rfl) (by kernel_rfl) rfl (fun _ _ _ h => h) [0, 3] rfl rfl ?_
                refine SL.OkH.takeS 37 rfl rfl rfl rfl rfl rfl rfl rfl (by kernel_rfl) (by kernel_rfl) (by kernel_rfl) rfl (fun _ _ _ h => h) [0, 3] rfl rfl ?_
                refine SL.OkH.take 38 rfl rfl rfl rfl (by kernel_rfl) (by kernel_rfl) (by kernel_rfl) rfl (fun _ _ _ h => h) [0, 3] rfl rfl (SL.Pure.pickF rfl rfl rfl) ?_
                refine SL.OkH.done (by kernel_rfl) ?_
                refine SL.Ok.normThen ?_
                refine hK37 _ _ ?_
                refine SL.Ok.condF rfl ?_
                refine SL.Ok.skip' ?_
                exact SL.Ok.via (hJr11 (1 + ac % 4096, aa, x) ⟨by simp only; omega, by simp only; omega, by simp only; omega, by simp only; omega, fun h => by omega, hok⟩) [1, 2, 3] ⟨rfl, rfl, rfl, rfl, rfl, rfl, rfl, trivial⟩ rfl rfl
        · skip
          refine SL.OkH.takeS 5 rfl rfl rfl rfl rfl rfl rfl rfl (by kernel_rfl) (by kernel_rfl) (by kernel_rfl) rfl (fun _ _ _ h => h) [0, 3] rfl rfl ?_
          refine SL.OkH.takeS 6 rfl rfl rfl rfl rfl rfl rfl rfl (by kernel_rfl) (by kernel_rfl) (by kernel_rfl) rfl (fun _ _ _ h => h) [0, 3] rfl rfl ?_
          refine SL.OkH.takeS 7 rfl rfl rfl rfl rfl rfl rfl rfl (by kernel_rfl) (by kernel_rfl) (by kernel_rfl) rfl (fun _ _ _ h => h) [0, 3] rfl rfl ?_
          refine SL.OkH.takeS 8 rfl rfl rfl rfl rfl rfl rfl rfl (by kernel_rfl) (by kernel_rfl) (by kernel_rfl) rfl (fun _ _ _ h => h) [0, 3] rfl rfl ?_
          refine SL.OkH.takeS 9 rfl rfl rfl rfl rfl rfl rfl rfl (by kernel_rfl) (by kernel_rfl) (by kernel_rfl) rfl (fun _ _ _ h => h) [0, 3] rfl rfl ?_
          refine SL.OkH.takeU 10 rfl rfl rfl rfl rfl rfl rfl (by kernel_rfl) (by kernel_rfl) (by kernel_rfl) rfl (fun _ _ _ h => h) [0, 3] rfl rfl ?_
          refine SL.OkH.takeU 11 rfl rfl rfl rfl rfl rfl rfl (by kernel_rfl) (by kernel_rfl) (by kernel_rfl) rfl (fun _ _ _ h => h) [0, 3] rfl rfl ?_
          refine SL.OkH.takeU 12 rfl rfl rfl rfl rfl rfl rfl (by kernel_rfl) (by kernel_rfl) (by kernel_rfl) rfl (fun _ _ _ h => h) [0, 3] rfl rfl ?_
          refine SL.OkH.takeU 13 rfl rfl rfl rfl rfl rfl rfl (by kernel_rfl) (by kernel_rfl) (by kernel_rfl) rfl (fun _ _ _ h => h) [0, 3] rfl rfl ?_
          refine SL.OkH.takeU 14 rfl rfl rfl rfl rfl rfl rfl (by kernel_rfl) (by kernel_rfl) (by kernel_rfl) rfl (fun _ _ _ h => h) [0, 3] rfl rfl ?_
          refine SL.OkH.takeU 15 rfl rfl rfl rfl rfl rfl rfl (by kernel_rfl) (by kernel_rfl) (by kernel_rfl) rfl (fun _ _ _ h => h) [0, 3] rfl rfl ?_
          refine SL.OkH.takeU 16 rfl rfl rfl rfl rfl rfl rfl (by kernel_rfl) (by kernel_rfl) (by kernel_rfl) rfl (fun _ _ _ h => h) [0, 3] rfl rfl ?_
          refine SL.OkH.takeU 17 rfl rfl rfl rfl rfl rfl rfl (by kernel_rfl) (by kernel_rfl) (by kernel_rfl) rfl (fun _ _ _ h => h) [0, 3] rfl rfl ?_
          refine SL.OkH.takeU 18 rfl rfl rfl rfl rfl rfl rfl (by kernel_rfl) (by kernel_rfl) (by kernel_rfl) rfl (fun _ _ _ h => h) [0, 3] rfl rfl ?_
          refine SL.OkH.takeU 19 rfl rfl rfl rfl rfl rfl rfl (by kernel_rfl) (by kernel_rfl) (by kernel_rfl) rfl (fun _ _ _ h => h) [0, 3] rfl rfl ?_
          refine SL.OkH.takeS 20 rfl rfl rfl rfl rfl rfl rfl rfl (by kernel_rfl) (by kernel_rfl) (by kernel_rfl) rfl (fun _ _ _ h => h) [0, 3] rfl rfl ?_
          refine SL.OkH.takeS 21 rfl rfl rfl rfl rfl rfl rfl rfl (by kernel_rfl) (by kernel_rfl) (by kernel_rfl) rfl (fun _ _ _ h => h) [0, 3] rfl rfl ?_
          refine SL.OkH.takeU 22 rfl rfl rfl rfl rfl rfl rfl (by kernel_rfl) (by kernel_rfl) (by kernel_rfl) rfl (fun _ _ _ h => h) [0, 3] rfl rfl ?_
          refine SL.OkH.takeU 23 rfl rfl rfl rfl rfl rfl rfl (by kernel_rfl) (by kernel_rfl) (by kernel_rfl) rfl (fun _ _ _ h => h) [0, 3] rfl rfl ?_
          refine SL.OkH.takeU 24 rfl rfl rfl rfl rfl rfl rfl (by kernel_rfl) (by kernel_rfl) (by kernel_rfl) rfl (fun _ _ _ h => h) [0, 3] rfl rfl ?_
          refine SL.OkH.takeU 25 rfl rfl rfl rfl rfl rfl rfl (by kernel_rfl) (by kernel_rfl) (by kernel_rfl) rfl (fun _ _ _ h => h) [0, 3] rfl rfl ?_
          refine SL.OkH.takeU 26 rfl rfl rfl rfl rfl rfl rfl (by kernel_rfl) (by kernel_rfl) (by kernel_rfl) rfl (fun _ _ _ h => h) [0, 3] rfl rfl ?_
          refine SL.OkH.takeU 27 rfl rfl rfl rfl rfl rfl rfl (by kernel_rfl) (by kernel_rfl) (by kernel_rfl) rfl (fun _ _ _ h => h) [0, 3] rfl rfl ?_
          refine SL.OkH.takeU 28 rfl rfl rfl rfl rfl rfl rfl (by kernel_rfl) (by kernel_rfl) (by kernel_rfl) rfl (fun _ _ _ h => h) [0, 3] rfl rfl ?_
          refine SL.OkH.takeU 29 rfl rfl rfl rfl rfl rfl rfl (by kernel_rfl) (by kernel_rfl) (by kernel_rfl) rfl (fun _ _ _ h => h) [0, 3] rfl rfl ?_
          refine SL.OkH.takeS 30 rfl rfl rfl rfl rfl rfl rfl rfl (by kernel_rfl) (by kernel_rfl) (by kernel_rfl) rfl (fun _ _ _ h => h) [0, 3] rfl rfl ?_
          refine SL.OkH.take 31 rfl rfl rfl rfl (by kernel_rfl) (by kernel_rfl) (by kernel_rfl) rfl (fun _ _ _ h => h) [0, 3] rfl rfl (SL.Pure.pickF rfl rfl rfl) ?_
          refine SL.OkH.take 32 rfl rfl rfl rfl (by kernel_rfl) (by kernel_rfl) (by kernel_rfl) rfl (fun _ _ _ h => h) [0, 3] rfl rfl (SL.Pure.move rfl rfl) ?_
          refine SL.OkH.takeS 33 rfl rfl rfl rfl rfl rfl rfl rfl (by kernel_rfl) (by kernel_rfl) (by kernel_rfl) rfl (fun _ _ _ h => h) [0, 3] rfl rfl ?_
          refine SL.OkH.takeS 34 rfl rfl rfl rfl rfl rfl rfl rfl (by kernel_rfl) (by kernel_rfl) (by kernel_rfl) rfl (fun _ _ _ h => h) [0, 3] rfl rfl ?_
          refine SL.OkH.takeS 35 rfl rfl rfl rfl rfl rfl rfl rfl (by kernel_rfl) (by kernel_rfl) (by kernel_rfl) rfl (fun _ _ _ h => h) [0, 3] rfl rfl ?_
          refine SL.OkH.takeS 36 rfl rfl rfl rfl rfl rfl rfl rfl (by kernel_rfl) (by kernel_rfl) (by kernel_rfl) rfl (fun _ _ _ h => h) [0, 3] rfl rfl ?_
          refine SL.OkH.takeS 37 rfl rfl rfl rfl rfl rfl rfl rfl (by kernel_rfl) (by kernel_rfl) (by kernel_rfl) rfl (fun _ _ _ h => h) [0, 3] rfl rfl ?_
          refine SL.OkH.take 38 rfl rfl rfl rfl (by kernel_rfl) (by kernel_rfl) (by kernel_rfl) rfl (fun _ _ _ h => h) [0, 3] rfl rfl (SL.Pure.pickF rfl rfl rfl) ?_
          refine SL.OkH.done (by kernel_rfl) ?_
          refine SL.Ok.normThen ?_
          refine hK37 _ _ ?_
          refine SL.Ok.condF rfl ?_
          refine SL.Ok.skip' ?_
          exact SL.Ok.via (hJr11 (1 + ac % 4096, aa, x) ⟨by simp only; omega, by simp only; omega, by simp only; omega, by simp only; omega, fun h => by omega, hok⟩) [1, 2, 3] ⟨rfl, rfl, rfl, rfl, rfl, rfl, rfl, trivial⟩ rfl rfl
      · skip
        refine SL.Ok.skip' ?_
        exact SL.Ok.via (hJr11 (4096, 10000, x) ⟨by simp only; omega, by simp only; omega, by simp only; omega, by simp only; omega, fun _ => rfl, hok⟩) [0, 1, 2] ⟨rfl, rfl, rfl, rfl, rfl, rfl, rfl, trivial⟩ rfl rfl
    · skip
      have hfin : r.fin = true := hend (by simp at hc51; omega)
      refine SL.Ok.exit ?_
      refine SL.Ok.exThen ?_
      refine SL.Ok.exThen ?_
      refine SL.Ok.exHere ?_
      refine SL.Ok.normThen ?_
      refine hK8 _ _ ?_
      refine SL.Ok.seq fun K38 hK38 => ?_
      refine SL.Ok.region ?_
      refine SL.Ok.op rfl rfl rfl (SL.Pure.move rfl rfl) ?_
      refine SL.Ok.eff rfl (SL.Eff.call [0, 1] [2] rfl rfl (by kernel_rfl) rfl rfl rfl rfl (fun w hM hK => recv_text_yes b43 r x hok hfin w (hM.sel [0, 1] rfl).own)) ?_
      intro _ _
      try simp only [SL.setN, SL.putD, SL.selM, SL.nth, List.cons_append, List.nil_append]
      refine SL.Ok.op rfl rfl rfl (SL.Pure.move rfl rfl) ?_
      refine SL.Ok.op rfl rfl rfl (SL.Pure.extract rfl rfl rfl) ?_
      refine SL.Ok.op rfl rfl rfl (SL.Pure.extract rfl rfl rfl) ?_
      refine SL.Ok.op rfl rfl rfl (SL.Pure.assign rfl rfl) ?_
      refine SL.Ok.op rfl rfl rfl (SL.Pure.assign rfl rfl) ?_
      refine SL.Ok.nil ?_
      refine SL.Ok.normThen ?_
      refine hK38 _ _ ?_
      refine SL.Ok.seq fun K39 hK39 => ?_
      refine SL.Ok.region ?_
      refine SL.Ok.op rfl rfl rfl (SL.Pure.move rfl rfl) ?_
      refine SL.Ok.op rfl rfl rfl (SL.Pure.eqi rfl rfl rfl) ?_
      refine SL.Ok.op rfl rfl rfl (SL.Pure.move rfl rfl) ?_
      refine SL.Ok.setT (d := 164) rfl (rfl) ?_
      refine SL.Ok.opG rfl rfl rfl rfl rfl rfl rfl (SL.Pure.move rfl rfl) ?_
      refine SL.Ok.opG rfl rfl rfl rfl rfl rfl rfl (SL.Pure.move rfl rfl) ?_
      refine SL.Ok.opG rfl rfl rfl rfl rfl rfl rfl (SL.Pure.eqS rfl rfl rfl) ?_
      refine SL.Ok.op rfl rfl rfl (SL.Pure.pickT rfl rfl rfl) ?_
      refine SL.Ok.op rfl rfl rfl (SL.Pure.move rfl rfl) ?_
      refine SL.Ok.setT (d := 169) rfl (by simp [hti.all hfin]) ?_
      refine SL.Ok.opG rfl rfl rfl rfl rfl rfl rfl (SL.Pure.move rfl rfl) ?_
      refine SL.Ok.effG rfl rfl rfl rfl rfl (SL.Eff.callV rfl rfl (by kernel_rfl) rfl rfl (fun w hM hK => recv_from b43 r x w (hM.blk (i := 0) rfl))) ?_
      intro _ _
      simp only [SL.setN, SL.putD, SL.selM, SL.nth, List.cons_append, List.nil_append]
      refine SL.Ok.opG rfl rfl rfl rfl rfl rfl rfl (SL.Pure.move rfl rfl) ?_
      refine SL.Ok.opG rfl rfl rfl rfl rfl rfl rfl (SL.Pure.lenS rfl rfl rfl Try.underlying9) ?_
      refine SL.Ok.opG rfl rfl rfl rfl rfl rfl rfl (SL.Pure.eqi rfl rfl rfl) ?_
      refine SL.Ok.op rfl rfl rfl (SL.Pure.pickT rfl rfl rfl) ?_
      refine SL.Ok.op rfl rfl rfl (SL.Pure.assign rfl rfl) ?_
      refine SL.Ok.nil ?_
      refine SL.Ok.normThen ?_
      refine hK39 _ _ ?_
      refine SL.Ok.ret SL.retHere (SL.resL rfl (.cons (.tmp rfl) .nil) rfl) (fun w' hM' hK' => ?_)
      first | exact ⟨rfl, hK'⟩ | exact ⟨by simp [SL.retv, hti.all hfin], hK'⟩

end Go.Proofs.Ytdlemfjdabnpcaa
