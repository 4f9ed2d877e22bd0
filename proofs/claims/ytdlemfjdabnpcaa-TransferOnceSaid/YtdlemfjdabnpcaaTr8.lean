/- The law TransferClone: its walk. -/
import Derived.Test.YtdlemfjdabnpcaaTr7
namespace Go.Proofs.Ytdlemfjdabnpcaa
open Go.SL Go.RowKit
set_option linter.unusedVariables false
set_option linter.unusedSimpArgs false

theorem range_text {w : World} {b off : Nat} {v : Int} {i : B 32} {f : Int} {x : List UInt8} (h : w.rangeAt b off (flat (rcmd v i f x)).toList) : w.rangeAt b (off + 34) (flat [.one (str x) rfl]).toList := by
  intro j u hj
  have e : (flat (rcmd v i f x)).toList = (flat [Seg.one (.int .i64 v) rfl, i.seg, Seg.one (.int .i64 f) rfl]).toList ++ (flat [Seg.one (str x) rfl]).toList := by
    rw [← Array.toList_append, ← flat_append]; rfl
  have hl : (flat [Seg.one (.int .i64 v) rfl, i.seg, Seg.one (.int .i64 f) rfl]).toList.length = 34 := by
    rw [Array.length_toList, flat_size]; rfl
  have := h (34 + j) u (by rw [e, List.getElem?_append_right (by omega), hl]; simpa using hj)
  rw [Nat.add_assoc]
  exact this

theorem eqR_l {r s : RS} (h1 : s.id = r.id) (h2 : s.size = r.size) : eqR s r = (decide (s.t = r.t) && (s.fin == r.fin)) := by simp [eqR, h1, h2, Bool.and_comm]
theorem eqR_r {r s : RS} (h1 : s.id = r.id) (h2 : s.size = r.size) : eqR r s = (decide (s.t = r.t) && (s.fin == r.fin)) := by
  simp only [eqR, h1, h2, decide_true, Bool.true_and]
  rw [Bool.and_comm, show (r.fin == s.fin) = (s.fin == r.fin) from Bool.beq_comm]
  congr 1
  exact decide_eq_decide.2 eq_comm

set_option maxHeartbeats 4000000 in
theorem clone_walk (id : B 32) (size : Int) (a : Option Addr) (len cap : Nat) (a2 : Option Addr) (len2 cap2 : Nat) (w : World) (hz : -9223372036854775808 ≤ size ∧ size ≤ 9223372036854775807) (hl : len ≤ 9223372036854775807) (hs : SlRd Try.prog w 7 31 35 a len) (hl2 : len2 ≤ 9223372036854775807) (hs2 : SlRd Try.prog w 7 31 35 a2 len2) :
    Calls Try.prog 4 [.agg (flat [id.seg]), .int .i64 size, .slice a len cap, .slice a2 len2 cap2].toArray w fun e w' => e = .returned (.bool true) ∧ Keeps none1 w w' := by
  by_cases h1 : 30 < len
  · skip
    refine SL.calls_ok (n := 181) (W := SL.none1) (m := []) Try.func4 rfl Try.ntmps4 rfl (SL.Mem.nil _ _ _) ?_
    simp only [SL.enum, Nat.reduceAdd]
    refine SL.Ok.seq fun K1 hK1 => ?_
    refine SL.Ok.region ?_
    refine SL.Ok.eff rfl (SL.Eff.box _ rfl rfl rfl rfl rfl) ?_
    intro b4 _
    try simp only [SL.setN, SL.putD, SL.selM, SL.nth, List.cons_append, List.nil_append]
    refine SL.Ok.op rfl rfl rfl (SL.Pure.assign rfl rfl) ?_
    refine SL.Ok.nil ?_
    refine SL.Ok.normThen ?_
    refine hK1 _ _ ?_
    refine SL.Ok.seq fun K2 hK2 => ?_
    refine SL.Ok.seq fun K3 hK3 => ?_
    refine SL.Ok.region ?_
    refine SL.Ok.eff rfl (SL.Eff.callV rfl rfl (by kernel_rfl) rfl rfl (fun w hM hK => known_c w)) ?_
    intro _ _
    try simp only [SL.setN, SL.putD, SL.selM, SL.nth, List.cons_append, List.nil_append]
    refine SL.Ok.op rfl rfl rfl (SL.Pure.not rfl rfl) ?_
    refine SL.Ok.op rfl rfl rfl (SL.Pure.move rfl rfl) ?_
    refine SL.Ok.setF (d := 21) rfl (rfl) ?_
    refine SL.Ok.opG rfl rfl rfl rfl rfl rfl rfl (SL.Pure.move rfl rfl) ?_
    refine SL.Ok.opG rfl rfl rfl rfl rfl rfl rfl (SL.Pure.lenSl rfl rfl rfl Try.underlying24) ?_
    refine SL.Ok.opG rfl rfl rfl rfl rfl rfl rfl (SL.Pure.gtr rfl rfl rfl) ?_
    refine SL.Ok.op rfl rfl rfl (SL.Pure.pickF rfl rfl rfl) ?_
    refine SL.Ok.op rfl rfl rfl (SL.Pure.move rfl rfl) ?_
    refine SL.Ok.setT (d := 26) rfl (by simp; omega) ?_
    refine SL.Ok.opS rfl rfl rfl rfl rfl rfl rfl ?_
    refine SL.Ok.opS rfl rfl rfl rfl rfl rfl rfl ?_
    refine SL.Ok.opS rfl rfl rfl rfl rfl rfl rfl ?_
    refine SL.Ok.op rfl rfl rfl (SL.Pure.pickT rfl rfl rfl) ?_
    refine SL.Ok.op rfl rfl rfl (SL.Pure.move rfl rfl) ?_
    refine SL.Ok.opS rfl rfl rfl rfl rfl rfl rfl ?_
    refine SL.Ok.opS rfl rfl rfl rfl rfl rfl rfl ?_
    refine SL.Ok.op rfl rfl rfl (SL.Pure.pickT rfl rfl rfl) ?_
    refine SL.Ok.op rfl rfl rfl (SL.Pure.move rfl rfl) ?_
    refine SL.Ok.opS rfl rfl rfl rfl rfl rfl rfl ?_
    refine SL.Ok.opS rfl rfl rfl rfl rfl rfl rfl ?_
    refine SL.Ok.op rfl rfl rfl (SL.Pure.pickT rfl rfl rfl) ?_
    refine SL.Ok.nil ?_
    refine SL.Ok.normThen ?_
    refine hK3 _ _ ?_
    refine SL.Ok.condT rfl ?_
    refine SL.Ok.seq fun K4 hK4 => ?_
    refine SL.Ok.region ?_
    refine SL.Ok.eff rfl (SL.Eff.callV rfl rfl (by kernel_rfl) rfl rfl (fun w hM hK => known_c w)) ?_
    intro _ _
    try simp only [SL.setN, SL.putD, SL.selM, SL.nth, List.cons_append, List.nil_append]
    refine SL.Ok.op rfl rfl rfl (SL.Pure.assign rfl rfl) ?_
    refine SL.Ok.nil ?_
    refine SL.Ok.normThen ?_
    refine hK4 _ _ ?_
    refine SL.Ok.ret (SL.retThen SL.retHere) (SL.resL rfl (.cons (.tmp rfl) .nil) rfl) (fun w' hM' hK' => ?_)
    exact ⟨rfl, hK'⟩
  by_cases h2 : 30 < len2
  · skip
    refine SL.calls_ok (n := 181) (W := SL.none1) (m := []) Try.func4 rfl Try.ntmps4 rfl (SL.Mem.nil _ _ _) ?_
    simp only [SL.enum, Nat.reduceAdd]
    refine SL.Ok.seq fun K1 hK1 => ?_
    refine SL.Ok.region ?_
    refine SL.Ok.eff rfl (SL.Eff.box _ rfl rfl rfl rfl rfl) ?_
    intro b4 _
    try simp only [SL.setN, SL.putD, SL.selM, SL.nth, List.cons_append, List.nil_append]
    refine SL.Ok.op rfl rfl rfl (SL.Pure.assign rfl rfl) ?_
    refine SL.Ok.nil ?_
    refine SL.Ok.normThen ?_
    refine hK1 _ _ ?_
    refine SL.Ok.seq fun K2 hK2 => ?_
    refine SL.Ok.seq fun K3 hK3 => ?_
    refine SL.Ok.region ?_
    refine SL.Ok.eff rfl (SL.Eff.callV rfl rfl (by kernel_rfl) rfl rfl (fun w hM hK => known_c w)) ?_
    intro _ _
    try simp only [SL.setN, SL.putD, SL.selM, SL.nth, List.cons_append, List.nil_append]
    refine SL.Ok.op rfl rfl rfl (SL.Pure.not rfl rfl) ?_
    refine SL.Ok.op rfl rfl rfl (SL.Pure.move rfl rfl) ?_
    refine SL.Ok.setF (d := 21) rfl (rfl) ?_
    refine SL.Ok.opG rfl rfl rfl rfl rfl rfl rfl (SL.Pure.move rfl rfl) ?_
    refine SL.Ok.opG rfl rfl rfl rfl rfl rfl rfl (SL.Pure.lenSl rfl rfl rfl Try.underlying24) ?_
    refine SL.Ok.opG rfl rfl rfl rfl rfl rfl rfl (SL.Pure.gtr rfl rfl rfl) ?_
    refine SL.Ok.op rfl rfl rfl (SL.Pure.pickF rfl rfl rfl) ?_
    refine SL.Ok.op rfl rfl rfl (SL.Pure.move rfl rfl) ?_
    refine SL.Ok.setF (d := 26) rfl (by simp; omega) ?_
    refine SL.Ok.opG rfl rfl rfl rfl rfl rfl rfl (SL.Pure.move rfl rfl) ?_
    refine SL.Ok.opG rfl rfl rfl rfl rfl rfl rfl (SL.Pure.lenSl rfl rfl rfl Try.underlying24) ?_
    refine SL.Ok.opG rfl rfl rfl rfl rfl rfl rfl (SL.Pure.gtr rfl rfl rfl) ?_
    refine SL.Ok.op rfl rfl rfl (SL.Pure.pickF rfl rfl rfl) ?_
    refine SL.Ok.op rfl rfl rfl (SL.Pure.move rfl rfl) ?_
    refine SL.Ok.setT (d := 31) rfl (by simp; omega) ?_
    refine SL.Ok.opS rfl rfl rfl rfl rfl rfl rfl ?_
    refine SL.Ok.opS rfl rfl rfl rfl rfl rfl rfl ?_
    refine SL.Ok.op rfl rfl rfl (SL.Pure.pickT rfl rfl rfl) ?_
    refine SL.Ok.op rfl rfl rfl (SL.Pure.move rfl rfl) ?_
    refine SL.Ok.opS rfl rfl rfl rfl rfl rfl rfl ?_
    refine SL.Ok.opS rfl rfl rfl rfl rfl rfl rfl ?_
    refine SL.Ok.op rfl rfl rfl (SL.Pure.pickT rfl rfl rfl) ?_
    refine SL.Ok.nil ?_
    refine SL.Ok.normThen ?_
    refine hK3 _ _ ?_
    refine SL.Ok.condT rfl ?_
    refine SL.Ok.seq fun K4 hK4 => ?_
    refine SL.Ok.region ?_
    refine SL.Ok.eff rfl (SL.Eff.callV rfl rfl (by kernel_rfl) rfl rfl (fun w hM hK => known_c w)) ?_
    intro _ _
    try simp only [SL.setN, SL.putD, SL.selM, SL.nth, List.cons_append, List.nil_append]
    refine SL.Ok.op rfl rfl rfl (SL.Pure.assign rfl rfl) ?_
    refine SL.Ok.nil ?_
    refine SL.Ok.normThen ?_
    refine hK4 _ _ ?_
    refine SL.Ok.ret (SL.retThen SL.retHere) (SL.resL rfl (.cons (.tmp rfl) .nil) rfl) (fun w' hM' hK' => ?_)
    exact ⟨rfl, hK'⟩
  by_cases h3 : size < 0
  · skip
    refine SL.calls_ok (n := 181) (W := SL.none1) (m := []) Try.func4 rfl Try.ntmps4 rfl (SL.Mem.nil _ _ _) ?_
    simp only [SL.enum, Nat.reduceAdd]
    refine SL.Ok.seq fun K1 hK1 => ?_
    refine SL.Ok.region ?_
    refine SL.Ok.eff rfl (SL.Eff.box _ rfl rfl rfl rfl rfl) ?_
    intro b4 _
    try simp only [SL.setN, SL.putD, SL.selM, SL.nth, List.cons_append, List.nil_append]
    refine SL.Ok.op rfl rfl rfl (SL.Pure.assign rfl rfl) ?_
    refine SL.Ok.nil ?_
    refine SL.Ok.normThen ?_
    refine hK1 _ _ ?_
    refine SL.Ok.seq fun K2 hK2 => ?_
    refine SL.Ok.seq fun K3 hK3 => ?_
    refine SL.Ok.region ?_
    refine SL.Ok.eff rfl (SL.Eff.callV rfl rfl (by kernel_rfl) rfl rfl (fun w hM hK => known_c w)) ?_
    intro _ _
    try simp only [SL.setN, SL.putD, SL.selM, SL.nth, List.cons_append, List.nil_append]
    refine SL.Ok.op rfl rfl rfl (SL.Pure.not rfl rfl) ?_
    refine SL.Ok.op rfl rfl rfl (SL.Pure.move rfl rfl) ?_
    refine SL.Ok.setF (d := 21) rfl (rfl) ?_
    refine SL.Ok.opG rfl rfl rfl rfl rfl rfl rfl (SL.Pure.move rfl rfl) ?_
    refine SL.Ok.opG rfl rfl rfl rfl rfl rfl rfl (SL.Pure.lenSl rfl rfl rfl Try.underlying24) ?_
    refine SL.Ok.opG rfl rfl rfl rfl rfl rfl rfl (SL.Pure.gtr rfl rfl rfl) ?_
    refine SL.Ok.op rfl rfl rfl (SL.Pure.pickF rfl rfl rfl) ?_
    refine SL.Ok.op rfl rfl rfl (SL.Pure.move rfl rfl) ?_
    refine SL.Ok.setF (d := 26) rfl (by simp; omega) ?_
    refine SL.Ok.opG rfl rfl rfl rfl rfl rfl rfl (SL.Pure.move rfl rfl) ?_
    refine SL.Ok.opG rfl rfl rfl rfl rfl rfl rfl (SL.Pure.lenSl rfl rfl rfl Try.underlying24) ?_
    refine SL.Ok.opG rfl rfl rfl rfl rfl rfl rfl (SL.Pure.gtr rfl rfl rfl) ?_
    refine SL.Ok.op rfl rfl rfl (SL.Pure.pickF rfl rfl rfl) ?_
    refine SL.Ok.op rfl rfl rfl (SL.Pure.move rfl rfl) ?_
    refine SL.Ok.setF (d := 31) rfl (by simp; omega) ?_
    refine SL.Ok.opG rfl rfl rfl rfl rfl rfl rfl (SL.Pure.move rfl rfl) ?_
    refine SL.Ok.opG rfl rfl rfl rfl rfl rfl rfl (SL.Pure.lss rfl rfl rfl) ?_
    refine SL.Ok.op rfl rfl rfl (SL.Pure.pickF rfl rfl rfl) ?_
    refine SL.Ok.op rfl rfl rfl (SL.Pure.move rfl rfl) ?_
    refine SL.Ok.setT (d := 35) rfl (by simp; omega) ?_
    refine SL.Ok.opS rfl rfl rfl rfl rfl rfl rfl ?_
    refine SL.Ok.opS rfl rfl rfl rfl rfl rfl rfl ?_
    refine SL.Ok.op rfl rfl rfl (SL.Pure.pickT rfl rfl rfl) ?_
    refine SL.Ok.nil ?_
    refine SL.Ok.normThen ?_
    refine hK3 _ _ ?_
    refine SL.Ok.condT rfl ?_
    refine SL.Ok.seq fun K4 hK4 => ?_
    refine SL.Ok.region ?_
    refine SL.Ok.eff rfl (SL.Eff.callV rfl rfl (by kernel_rfl) rfl rfl (fun w hM hK => known_c w)) ?_
    intro _ _
    try simp only [SL.setN, SL.putD, SL.selM, SL.nth, List.cons_append, List.nil_append]
    refine SL.Ok.op rfl rfl rfl (SL.Pure.assign rfl rfl) ?_
    refine SL.Ok.nil ?_
    refine SL.Ok.normThen ?_
    refine hK4 _ _ ?_
    refine SL.Ok.ret (SL.retThen SL.retHere) (SL.resL rfl (.cons (.tmp rfl) .nil) rfl) (fun w' hM' hK' => ?_)
    exact ⟨rfl, hK'⟩
  by_cases h4 : 65536 < size
  · skip
    refine SL.calls_ok (n := 181) (W := SL.none1) (m := []) Try.func4 rfl Try.ntmps4 rfl (SL.Mem.nil _ _ _) ?_
    simp only [SL.enum, Nat.reduceAdd]
    refine SL.Ok.seq fun K1 hK1 => ?_
    refine SL.Ok.region ?_
    refine SL.Ok.eff rfl (SL.Eff.box _ rfl rfl rfl rfl rfl) ?_
    intro b4 _
    try simp only [SL.setN, SL.putD, SL.selM, SL.nth, List.cons_append, List.nil_append]
    refine SL.Ok.op rfl rfl rfl (SL.Pure.assign rfl rfl) ?_
    refine SL.Ok.nil ?_
    refine SL.Ok.normThen ?_
    refine hK1 _ _ ?_
    refine SL.Ok.seq fun K2 hK2 => ?_
    refine SL.Ok.seq fun K3 hK3 => ?_
    refine SL.Ok.region ?_
    refine SL.Ok.eff rfl (SL.Eff.callV rfl rfl (by kernel_rfl) rfl rfl (fun w hM hK => known_c w)) ?_
    intro _ _
    try simp only [SL.setN, SL.putD, SL.selM, SL.nth, List.cons_append, List.nil_append]
    refine SL.Ok.op rfl rfl rfl (SL.Pure.not rfl rfl) ?_
    refine SL.Ok.op rfl rfl rfl (SL.Pure.move rfl rfl) ?_
    refine SL.Ok.setF (d := 21) rfl (rfl) ?_
    refine SL.Ok.opG rfl rfl rfl rfl rfl rfl rfl (SL.Pure.move rfl rfl) ?_
    refine SL.Ok.opG rfl rfl rfl rfl rfl rfl rfl (SL.Pure.lenSl rfl rfl rfl Try.underlying24) ?_
    refine SL.Ok.opG rfl rfl rfl rfl rfl rfl rfl (SL.Pure.gtr rfl rfl rfl) ?_
    refine SL.Ok.op rfl rfl rfl (SL.Pure.pickF rfl rfl rfl) ?_
    refine SL.Ok.op rfl rfl rfl (SL.Pure.move rfl rfl) ?_
    refine SL.Ok.setF (d := 26) rfl (by simp; omega) ?_
    refine SL.Ok.opG rfl rfl rfl rfl rfl rfl rfl (SL.Pure.move rfl rfl) ?_
    refine SL.Ok.opG rfl rfl rfl rfl rfl rfl rfl (SL.Pure.lenSl rfl rfl rfl Try.underlying24) ?_
    refine SL.Ok.opG rfl rfl rfl rfl rfl rfl rfl (SL.Pure.gtr rfl rfl rfl) ?_
    refine SL.Ok.op rfl rfl rfl (SL.Pure.pickF rfl rfl rfl) ?_
    refine SL.Ok.op rfl rfl rfl (SL.Pure.move rfl rfl) ?_
    refine SL.Ok.setF (d := 31) rfl (by simp; omega) ?_
    refine SL.Ok.opG rfl rfl rfl rfl rfl rfl rfl (SL.Pure.move rfl rfl) ?_
    refine SL.Ok.opG rfl rfl rfl rfl rfl rfl rfl (SL.Pure.lss rfl rfl rfl) ?_
    refine SL.Ok.op rfl rfl rfl (SL.Pure.pickF rfl rfl rfl) ?_
    refine SL.Ok.op rfl rfl rfl (SL.Pure.move rfl rfl) ?_
    refine SL.Ok.setF (d := 35) rfl (by simp; omega) ?_
    refine SL.Ok.opG rfl rfl rfl rfl rfl rfl rfl (SL.Pure.move rfl rfl) ?_
    refine SL.Ok.opG rfl rfl rfl rfl rfl rfl rfl (SL.Pure.gtr rfl rfl rfl) ?_
    refine SL.Ok.op rfl rfl rfl (SL.Pure.pickF rfl rfl rfl) ?_
    refine SL.Ok.nil ?_
    refine SL.Ok.normThen ?_
    refine hK3 _ _ ?_
    refine SL.Ok.condT' rfl (by simp; omega) ?_
    refine SL.Ok.seq fun K4 hK4 => ?_
    refine SL.Ok.region ?_
    refine SL.Ok.eff rfl (SL.Eff.callV rfl rfl (by kernel_rfl) rfl rfl (fun w hM hK => known_c w)) ?_
    intro _ _
    try simp only [SL.setN, SL.putD, SL.selM, SL.nth, List.cons_append, List.nil_append]
    refine SL.Ok.op rfl rfl rfl (SL.Pure.assign rfl rfl) ?_
    refine SL.Ok.nil ?_
    refine SL.Ok.normThen ?_
    refine hK4 _ _ ?_
    refine SL.Ok.ret (SL.retThen SL.retHere) (SL.resL rfl (.cons (.tmp rfl) .nil) rfl) (fun w' hM' hK' => ?_)
    exact ⟨rfl, hK'⟩
  refine SL.calls_ok (n := 181) (W := SL.none1) (m := []) Try.func4 rfl Try.ntmps4 rfl (SL.Mem.nil _ _ _) ?_
  simp only [SL.enum, Nat.reduceAdd]
  refine SL.Ok.seq fun K1 hK1 => ?_
  refine SL.Ok.region ?_
  refine SL.Ok.eff rfl (SL.Eff.box _ rfl rfl rfl rfl rfl) ?_
  intro b4 _
  try simp only [SL.setN, SL.putD, SL.selM, SL.nth, List.cons_append, List.nil_append]
  refine SL.Ok.op rfl rfl rfl (SL.Pure.assign rfl rfl) ?_
  refine SL.Ok.nil ?_
  refine SL.Ok.normThen ?_
  refine hK1 _ _ ?_
  refine SL.Ok.seq fun K2 hK2 => ?_
  refine SL.Ok.seq fun K3 hK3 => ?_
  refine SL.Ok.region ?_
  refine SL.Ok.eff rfl (SL.Eff.callV rfl rfl (by kernel_rfl) rfl rfl (fun w hM hK => known_c w)) ?_
  intro _ _
  try simp only [SL.setN, SL.putD, SL.selM, SL.nth, List.cons_append, List.nil_append]
  refine SL.Ok.op rfl rfl rfl (SL.Pure.not rfl rfl) ?_
  refine SL.Ok.op rfl rfl rfl (SL.Pure.move rfl rfl) ?_
  refine SL.Ok.setF (d := 21) rfl (rfl) ?_
  refine SL.Ok.opG rfl rfl rfl rfl rfl rfl rfl (SL.Pure.move rfl rfl) ?_
  refine SL.Ok.opG rfl rfl rfl rfl rfl rfl rfl (SL.Pure.lenSl rfl rfl rfl Try.underlying24) ?_
  refine SL.Ok.opG rfl rfl rfl rfl rfl rfl rfl (SL.Pure.gtr rfl rfl rfl) ?_
  refine SL.Ok.op rfl rfl rfl (SL.Pure.pickF rfl rfl rfl) ?_
  refine SL.Ok.op rfl rfl rfl (SL.Pure.move rfl rfl) ?_
  refine SL.Ok.setF (d := 26) rfl (by simp; omega) ?_
  refine SL.Ok.opG rfl rfl rfl rfl rfl rfl rfl (SL.Pure.move rfl rfl) ?_
  refine SL.Ok.opG rfl rfl rfl rfl rfl rfl rfl (SL.Pure.lenSl rfl rfl rfl Try.underlying24) ?_
  refine SL.Ok.opG rfl rfl rfl rfl rfl rfl rfl (SL.Pure.gtr rfl rfl rfl) ?_
  refine SL.Ok.op rfl rfl rfl (SL.Pure.pickF rfl rfl rfl) ?_
  refine SL.Ok.op rfl rfl rfl (SL.Pure.move rfl rfl) ?_
  refine SL.Ok.setF (d := 31) rfl (by simp; omega) ?_
  refine SL.Ok.opG rfl rfl rfl rfl rfl rfl rfl (SL.Pure.move rfl rfl) ?_
  refine SL.Ok.opG rfl rfl rfl rfl rfl rfl rfl (SL.Pure.lss rfl rfl rfl) ?_
  refine SL.Ok.op rfl rfl rfl (SL.Pure.pickF rfl rfl rfl) ?_
  refine SL.Ok.op rfl rfl rfl (SL.Pure.move rfl rfl) ?_
  refine SL.Ok.setF (d := 35) rfl (by simp; omega) ?_
  refine SL.Ok.opG rfl rfl rfl rfl rfl rfl rfl (SL.Pure.move rfl rfl) ?_
  refine SL.Ok.opG rfl rfl rfl rfl rfl rfl rfl (SL.Pure.gtr rfl rfl rfl) ?_
  refine SL.Ok.op rfl rfl rfl (SL.Pure.pickF rfl rfl rfl) ?_
  refine SL.Ok.nil ?_
  refine SL.Ok.normThen ?_
  refine hK3 _ _ ?_
  refine SL.Ok.condF' rfl (by simp; omega) ?_
  refine SL.Ok.skip' ?_
  refine SL.Ok.normThen ?_
  refine hK2 _ _ ?_
  refine SL.Ok.seq fun K4 hK4 => ?_
  refine SL.Ok.region ?_
  refine SL.Ok.op rfl rfl rfl (by first | exact SL.Pure.loadA 0 (k := 32) rfl rfl rfl (by kernel_rfl) rfl (by kernel_rfl)) ?_
  refine SL.Ok.op rfl rfl rfl (SL.Pure.move rfl rfl) ?_
  refine SL.Ok.eff rfl (SL.Eff.call [] [0] rfl rfl (by kernel_rfl) rfl rfl rfl rfl (fun w hM hK => newR_ok id size w (by omega) (by omega))) ?_
  intro b43 _
  try simp only [SL.setN, SL.putD, SL.selM, SL.nth, List.cons_append, List.nil_append]
  refine SL.Ok.op rfl rfl rfl (SL.Pure.move rfl rfl) ?_
  refine SL.Ok.op rfl rfl rfl (SL.Pure.extract rfl rfl rfl) ?_
  refine SL.Ok.op rfl rfl rfl (SL.Pure.extract rfl rfl rfl) ?_
  refine SL.Ok.op rfl rfl rfl (SL.Pure.assign rfl rfl) ?_
  refine SL.Ok.op rfl rfl rfl (SL.Pure.assign rfl rfl) ?_
  refine SL.Ok.nil ?_
  refine SL.Ok.normThen ?_
  refine hK4 _ _ ?_
  refine SL.Ok.seq fun K5 hK5 => ?_
  refine SL.Ok.region ?_
  refine SL.Ok.op rfl rfl rfl (by first | exact SL.Pure.loadA 0 (k := 32) rfl rfl rfl (by kernel_rfl) rfl (by kernel_rfl) | exact SL.Pure.loadA 1 (k := 32) rfl rfl rfl (by kernel_rfl) rfl (by kernel_rfl) | exact SL.Pure.loadA 2 (k := 32) rfl rfl rfl (by kernel_rfl) rfl (by kernel_rfl)) ?_
  refine SL.Ok.op rfl rfl rfl (SL.Pure.move rfl rfl) ?_
  refine SL.Ok.op rfl rfl rfl (SL.Pure.build [(0, 32), (32, 1), (33, 1), (34, 1)] [(B.zero 32).seg, Seg.one (.int .i64 0) rfl, Seg.one (str []) rfl, Seg.one (.bool false) rfl] rfl rfl (.cons .agg (.cons (.one rfl) .nil)) (by kernel_rfl) (by kernel_rfl) rfl) ?_
  refine SL.Ok.eff rfl (SL.Eff.alloc [(B.zero 32).seg, Seg.one (.int .i64 0) rfl, Seg.one (str []) rfl, Seg.one (.bool false) rfl] rfl rfl rfl (by kernel_rfl)) ?_
  intro b11 _
  try simp only [SL.setN, SL.putD, SL.selM, SL.nth, List.cons_append, List.nil_append]
  refine SL.Ok.eff rfl (by first | exact SL.Eff.storeG (k := 35) 0 _ rfl rfl rfl rfl rfl rfl (by kernel_rfl) rfl rfl | exact SL.Eff.storeG (k := 35) 1 _ rfl rfl rfl rfl rfl rfl (by kernel_rfl) rfl rfl | exact SL.Eff.storeG (k := 35) 2 _ rfl rfl rfl rfl rfl rfl (by kernel_rfl) rfl rfl | exact SL.Eff.storeG (k := 35) 3 _ rfl rfl rfl rfl rfl rfl (by kernel_rfl) rfl rfl) ?_
  intro _ _
  try simp only [SL.setN, SL.putD, SL.selM, SL.nth, List.cons_append, List.nil_append]
  refine SL.Ok.nil ?_
  refine SL.Ok.normThen ?_
  refine hK5 _ _ ?_
  refine SL.Ok.seq fun K6 hK6 => ?_
  refine SL.Ok.seq fun K7 hK7 => ?_
  refine SL.Ok.region ?_
  refine SL.Ok.op rfl rfl rfl (SL.Pure.move rfl rfl) ?_
  refine SL.Ok.op rfl rfl rfl (SL.Pure.nei rfl rfl rfl) ?_
  refine SL.Ok.nil ?_
  refine SL.Ok.normThen ?_
  refine hK7 _ _ ?_
  refine SL.Ok.condF' rfl (rfl) ?_
  refine SL.Ok.skip' ?_
  refine SL.Ok.normThen ?_
  refine hK6 _ _ ?_
  refine SL.Ok.seq fun K8 hK8 => ?_
  refine SL.Ok.seq fun K9 hK9 => ?_
  refine SL.Ok.region ?_
  refine SL.Ok.op rfl rfl rfl (SL.Pure.assign rfl rfl) ?_
  refine SL.Ok.nil ?_
  refine SL.Ok.normThen ?_
  refine hK9 _ _ ?_
  refine SL.Ok.block ?_
  refine SL.Ok.loop (X := (Nat × RS × BX)) (φ := fun X => X.1 ≤ len ∧ rinv X.2.1 ∧ rok b43 X.2.1 X.2.2 ∧ X.2.1.size = size ∧ X.2.1.id = id) (L := fun X => [(1, .int .i64 size), (2, .slice a len cap), (3, .slice a2 len2 cap2), (4, .pointer (some ⟨b4, 0, none⟩)), (9, .pointer (some ⟨b43, 0, none⟩)), (11, .pointer (some ⟨b11, 0, none⟩)), (12, .int .i64 X.1)]) (M := fun X => .blk b11 (.cells (flat (rseg X.2.1)) 41 (0, 0)) :: rmem b43 X.2.1 X.2.2 ++ [.blk b4 (.cells (flat [id.seg]) 23 (0, 0))]) (μ := fun X => len - X.1) ?_ ?_
  · exact fun _ _ st => ⟨(0, ⟨id, size, [], false⟩, ⟨none, none, 0⟩), ⟨Nat.zero_le _, ⟨by simp only; omega, by simp only; omega, by simp; omega⟩, rok_new .., rfl, rfl⟩, st.to [0, 1, 2, 3] ⟨rfl, rfl, rfl, rfl, rfl, rfl, rfl, trivial⟩ rfl rfl⟩
  · intro ⟨k, r, x⟩ ⟨hk, hi, hok, hsz, hid⟩
    try dsimp only
    dsimp only at hk hi hok hsz hid
    refine SL.Ok.seq fun K10 hK10 => ?_
    refine SL.Ok.seq fun K11 hK11 => ?_
    refine SL.Ok.region ?_
    refine SL.Ok.op rfl rfl rfl (SL.Pure.move rfl rfl) ?_
    refine SL.Ok.op rfl rfl rfl (SL.Pure.move rfl rfl) ?_
    refine SL.Ok.op rfl rfl rfl (SL.Pure.lenSl rfl rfl rfl Try.underlying24) ?_
    refine SL.Ok.op rfl rfl rfl (SL.Pure.lss rfl rfl rfl) ?_
    refine SL.Ok.nil ?_
    refine SL.Ok.normThen ?_
    refine hK11 _ _ ?_
    refine SL.Ok.cond rfl (fun hc54 => ?_) (fun hc54 => ?_)
    · skip
      have hkl : k < len := by simpa using hc54
      rcases hs with h0 | ⟨sb, soff, rfl, hsb, E, hE⟩
      · omega
      obtain ⟨hrng, hrd⟩ := hE k hkl
      obtain ⟨v, ci, f, xs, hEk, hvb, hfb, hxl⟩ := rd_rcmd hrd
      rw [hEk] at hrng
      clear hE hrd hEk
      refine SL.Ok.skip' ?_
      refine SL.Ok.normThen ?_
      refine hK10 _ _ ?_
      refine SL.Ok.seq fun K12 hK12 => ?_
      refine SL.Ok.block ?_
      refine SL.Ok.seq fun K13 hK13 => ?_
      refine SL.Ok.seq fun K14 hK14 => ?_
      refine SL.Ok.region ?_
      refine SL.Ok.op rfl rfl rfl (SL.Pure.move rfl rfl) ?_
      refine SL.Ok.op rfl rfl rfl (SL.Pure.move rfl rfl) ?_
      refine SL.Ok.op rfl rfl rfl (SL.Pure.indexAddrS (sz := 35) rfl rfl rfl Try.underlying24 (by kernel_rfl) (by omega) (by omega) rfl) ?_
      refine SL.Ok.op rfl rfl rfl (SL.Pure.fieldAddr (k := 34) rfl rfl (by kernel_rfl) rfl) ?_
      refine SL.Ok.op rfl rfl rfl (SL.Pure.loadOR1 (range_text hrng) hsb (fun h => h) rfl rfl (by kernel_rfl)) ?_
      refine SL.Ok.op rfl rfl rfl (SL.Pure.lenS rfl rfl rfl Try.underlying9) ?_
      refine SL.Ok.op rfl rfl rfl (SL.Pure.gtr rfl rfl rfl) ?_
      refine SL.Ok.nil ?_
      refine SL.Ok.normThen ?_
      refine hK14 _ _ ?_
      refine SL.Ok.cond rfl (fun hc63 => ?_) (fun hc63 => ?_)
      · skip
        refine SL.Ok.seq fun K15 hK15 => ?_
        refine SL.Ok.region ?_
        refine SL.Ok.op rfl rfl rfl (SL.Pure.assign rfl rfl) ?_
        refine SL.Ok.nil ?_
        refine SL.Ok.normThen ?_
        refine hK15 _ _ ?_
        refine SL.Ok.ret (SL.retThen (SL.retBlock (SL.retThen (SL.retThen (SL.retBlock (SL.retThen SL.retHere)))))) (SL.resL rfl (.cons (.tmp rfl) .nil) rfl) (fun w' hM' hK' => ?_)
        first | exact ⟨rfl, hK'⟩ | exact ⟨by simp [SL.retv, eqR, hzz], hK'⟩
      · skip
        refine SL.Ok.skip' ?_
        refine SL.Ok.normThen ?_
        refine hK13 _ _ ?_
        refine SL.Ok.seq fun K16 hK16 => ?_
        refine SL.Ok.held [1, 2, 3] mixed rfl rfl ?_
        simp only [List.replicate, List.length_cons, List.length_nil, Nat.reduceAdd]
        refine SL.OkH.take 1 rfl rfl rfl rfl (by kernel_rfl) (by kernel_rfl) (by kernel_rfl) rfl (fun _ _ _ h => h) [1, 2, 3] rfl rfl (SL.Pure.move rfl rfl) ?_
        refine SL.OkH.take 2 rfl rfl rfl rfl (by kernel_rfl) (by kernel_rfl) (by kernel_rfl) rfl (fun _ _ _ h => h) [1, 2, 3] rfl rfl (SL.Pure.move rfl rfl) ?_
        refine SL.OkH.take 3 rfl rfl rfl rfl (by kernel_rfl) (by kernel_rfl) (by kernel_rfl) rfl (fun _ _ _ h => h) [1, 2, 3] rfl rfl (SL.Pure.indexAddrS (sz := 35) rfl rfl rfl Try.underlying24 (by kernel_rfl) (by omega) (by omega) rfl) ?_
        refine SL.OkH.take 4 rfl rfl rfl rfl (by kernel_rfl) (by kernel_rfl) (by kernel_rfl) rfl (fun _ _ _ h => h) [1, 2, 3] rfl rfl (SL.Pure.loadOR (k := 35) hrng hsb (fun h => h) rfl rfl (by kernel_rfl) rfl (by kernel_rfl)) ?_
        refine SL.OkH.eff 0 rfl rfl (by kernel_rfl) rfl [1, 2, 3] (fun _ => rfl) rfl (SL.Eff.ofPure rfl rfl (by first | exact SL.Pure.loadA 0 (k := 35) rfl rfl rfl (by kernel_rfl) rfl (by kernel_rfl) | exact SL.Pure.loadA 1 (k := 35) rfl rfl rfl (by kernel_rfl) rfl (by kernel_rfl) | exact SL.Pure.loadA 2 (k := 35) rfl rfl rfl (by kernel_rfl) rfl (by kernel_rfl) | exact SL.Pure.loadA 3 (k := 35) rfl rfl rfl (by kernel_rfl) rfl (by kernel_rfl))) ?_
        intro _ _
        refine SL.OkH.eff 5 rfl rfl (by kernel_rfl) rfl [1, 2, 3] (fun _ => rfl) rfl (SL.Eff.callV rfl rfl (by kernel_rfl) rfl rfl (fun w hM hK => refHear_c r v ci f xs (by have := hi.2.1; have := hi.2.2; omega) (by omega) w)) ?_
        intro _ _
        try simp only [SL.setN, SL.putD, SL.selM, SL.nth, List.cons_append, List.nil_append]
        refine SL.OkH.take 6 rfl rfl rfl rfl (by kernel_rfl) (by kernel_rfl) (by kernel_rfl) rfl (fun _ _ _ h => h) [1, 2, 3] rfl rfl (SL.Pure.move rfl rfl) ?_
        refine SL.OkH.take 7 rfl rfl rfl rfl (by kernel_rfl) (by kernel_rfl) (by kernel_rfl) rfl (fun _ _ _ h => h) [1, 2, 3] rfl rfl (SL.Pure.extract rfl rfl rfl) ?_
        refine SL.OkH.take 8 rfl rfl rfl rfl (by kernel_rfl) (by kernel_rfl) (by kernel_rfl) rfl (fun _ _ _ h => h) [1, 2, 3] rfl rfl (SL.Pure.extract rfl rfl rfl) ?_
        refine SL.OkH.eff 9 rfl rfl (by kernel_rfl) rfl [1, 2, 3] (fun _ => rfl) rfl (by first | exact SL.Eff.storeG (k := 35) 0 _ rfl rfl rfl rfl rfl rfl (by kernel_rfl) rfl rfl | exact SL.Eff.storeG (k := 35) 1 _ rfl rfl rfl rfl rfl rfl (by kernel_rfl) rfl rfl | exact SL.Eff.storeG (k := 35) 2 _ rfl rfl rfl rfl rfl rfl (by kernel_rfl) rfl rfl | exact SL.Eff.storeG (k := 35) 3 _ rfl rfl rfl rfl rfl rfl (by kernel_rfl) rfl rfl) ?_
        intro _ _
        try simp only [SL.setN, SL.putD, SL.selM, SL.nth, List.cons_append, List.nil_append]
        refine SL.OkH.done (by kernel_rfl) ?_
        refine SL.Ok.normThen ?_
        refine hK16 _ _ ?_
        refine SL.Ok.region ?_
        refine SL.Ok.op rfl rfl rfl (SL.Pure.move rfl rfl) ?_
        refine SL.Ok.op rfl rfl rfl (SL.Pure.move rfl rfl) ?_
        refine SL.Ok.op rfl rfl rfl (SL.Pure.move rfl rfl) ?_
        refine SL.Ok.op rfl rfl rfl (SL.Pure.indexAddrS (sz := 35) rfl rfl rfl Try.underlying24 (by kernel_rfl) (by omega) (by omega) rfl) ?_
        refine SL.Ok.op rfl rfl rfl (SL.Pure.loadOR (k := 35) hrng hsb (fun h => h) rfl rfl (by kernel_rfl) rfl (by kernel_rfl)) ?_
        refine SL.Ok.eff rfl (SL.Eff.callV rfl rfl (by kernel_rfl) rfl rfl (fun w hM hK => own_c v ci f xs w)) ?_
        intro _ _
        try simp only [SL.setN, SL.putD, SL.selM, SL.nth, List.cons_append, List.nil_append]
        refine SL.Ok.eff rfl (SL.Eff.call [1, 2] [0, 3] rfl rfl (by kernel_rfl) rfl rfl rfl rfl (fun w hM hK => hear_c b43 r x hok hi v ci f xs w (hM.sel [1, 2] rfl).own)) ?_
        intro y hy
        try simp only [SL.setN, SL.putD, SL.selM, SL.nth, List.cons_append, List.nil_append]
        refine SL.Ok.nil ?_
        obtain ⟨hi2, hid2, hsz2⟩ := hear_inv hi v ci f xs
        refine SL.Ok.normBlock ?_
        refine SL.Ok.normThen ?_
        refine hK12 _ _ ?_
        refine SL.Ok.region ?_
        refine SL.Ok.op rfl rfl rfl (SL.Pure.move rfl rfl) ?_
        refine SL.Ok.op rfl rfl rfl (SL.Pure.addI rfl rfl rfl rfl (by omega) (by omega)) ?_
        refine SL.Ok.op rfl rfl rfl (SL.Pure.assign rfl rfl) ?_
        refine SL.Ok.nil ?_
        refine SL.Ok.normThen ?_
        exact SL.Ok.round (k + 1, (hear r v ci f xs).1, y) [2, 0, 1, 3] ⟨by simp only; omega, hi2, hy, hsz2.trans hsz, hid2.trans hid⟩ (by simp; omega) ⟨rfl, rfl, rfl, rfl, rfl, rfl, rfl, trivial⟩ rfl rfl
    · skip
      refine SL.Ok.exit ?_
      refine SL.Ok.exThen ?_
      refine SL.Ok.exThen ?_
      refine SL.Ok.exHere ?_
      refine SL.Ok.normThen ?_
      refine hK8 _ _ ?_
      refine SL.Ok.seq fun K17 hK17 => ?_
      refine SL.Ok.region ?_
      refine SL.Ok.op rfl rfl rfl (SL.Pure.move rfl rfl) ?_
      refine SL.Ok.eff rfl (SL.Eff.call [1, 2] [0, 3] rfl rfl (by kernel_rfl) rfl rfl rfl rfl (fun w hM hK => clone_c b43 r x hok hi w (hM.sel [1, 2] rfl).own)) ?_
      intro ⟨b81, z⟩ hokz
      try simp only [SL.setN, SL.putD, SL.selM, SL.nth, List.cons_append, List.nil_append]
      refine SL.Ok.op rfl rfl rfl (SL.Pure.assign rfl rfl) ?_
      refine SL.Ok.nil ?_
      refine SL.Ok.normThen ?_
      refine hK17 _ _ ?_
      refine SL.Ok.seq fun K18 hK18 => ?_
      refine SL.Ok.region ?_
      refine SL.Ok.op rfl rfl rfl (by first | exact SL.Pure.loadA 0 (k := 35) rfl rfl rfl (by kernel_rfl) rfl (by kernel_rfl) | exact SL.Pure.loadA 1 (k := 35) rfl rfl rfl (by kernel_rfl) rfl (by kernel_rfl) | exact SL.Pure.loadA 2 (k := 35) rfl rfl rfl (by kernel_rfl) rfl (by kernel_rfl) | exact SL.Pure.loadA 3 (k := 35) rfl rfl rfl (by kernel_rfl) rfl (by kernel_rfl) | exact SL.Pure.loadA 4 (k := 35) rfl rfl rfl (by kernel_rfl) rfl (by kernel_rfl) | exact SL.Pure.loadA 5 (k := 35) rfl rfl rfl (by kernel_rfl) rfl (by kernel_rfl)) ?_
      refine SL.Ok.eff rfl (SL.Eff.alloc [(B.zero 32).seg, Seg.one (.int .i64 0) rfl, Seg.one (str []) rfl, Seg.one (.bool false) rfl] rfl rfl rfl (by kernel_rfl)) ?_
      intro b14 _
      try simp only [SL.setN, SL.putD, SL.selM, SL.nth, List.cons_append, List.nil_append]
      refine SL.Ok.eff rfl (by first | exact SL.Eff.storeG (k := 35) 0 _ rfl rfl rfl rfl rfl rfl (by kernel_rfl) rfl rfl | exact SL.Eff.storeG (k := 35) 1 _ rfl rfl rfl rfl rfl rfl (by kernel_rfl) rfl rfl | exact SL.Eff.storeG (k := 35) 2 _ rfl rfl rfl rfl rfl rfl (by kernel_rfl) rfl rfl | exact SL.Eff.storeG (k := 35) 3 _ rfl rfl rfl rfl rfl rfl (by kernel_rfl) rfl rfl | exact SL.Eff.storeG (k := 35) 4 _ rfl rfl rfl rfl rfl rfl (by kernel_rfl) rfl rfl | exact SL.Eff.storeG (k := 35) 5 _ rfl rfl rfl rfl rfl rfl (by kernel_rfl) rfl rfl | exact SL.Eff.storeG (k := 35) 6 _ rfl rfl rfl rfl rfl rfl (by kernel_rfl) rfl rfl) ?_
      intro _ _
      try simp only [SL.setN, SL.putD, SL.selM, SL.nth, List.cons_append, List.nil_append]
      refine SL.Ok.nil ?_
      refine SL.Ok.normThen ?_
      refine hK18 _ _ ?_
      refine SL.Ok.seq fun K19 hK19 => ?_
      refine SL.Ok.seq fun K20 hK20 => ?_
      refine SL.Ok.region ?_
      refine SL.Ok.op rfl rfl rfl (SL.Pure.move rfl rfl) ?_
      refine SL.Ok.op rfl rfl rfl (SL.Pure.move rfl rfl) ?_
      refine SL.Ok.eff rfl (SL.Eff.call [1, 2, 3, 4] [0, 5, 6] rfl rfl (by kernel_rfl) rfl rfl rfl rfl (fun w hM hK => equal_c b81 b43 r r z x hokz hok w (hM.sel [1, 2, 3, 4] rfl).own)) ?_
      intro _ _
      try simp only [SL.setN, SL.putD, SL.selM, SL.nth, List.cons_append, List.nil_append]
      refine SL.Ok.op rfl rfl rfl (SL.Pure.not rfl rfl) ?_
      refine SL.Ok.op rfl rfl rfl (SL.Pure.move rfl rfl) ?_
      refine SL.Ok.setF (d := 87) rfl (by simp [eqR]) ?_
      refine SL.Ok.opG rfl rfl rfl rfl rfl rfl rfl (SL.Pure.move rfl rfl) ?_
      refine SL.Ok.opG rfl rfl rfl rfl rfl rfl rfl (SL.Pure.move rfl rfl) ?_
      refine SL.Ok.effG rfl rfl rfl rfl rfl (SL.Eff.call [2, 3, 0, 1] [4, 5, 6] rfl rfl (by kernel_rfl) rfl rfl rfl rfl (fun w hM hK => equal_c b43 b81 r r x z hok hokz w (hM.sel [2, 3, 0, 1] rfl).own)) ?_
      intro _ _
      simp only [SL.setN, SL.putD, SL.selM, SL.nth, List.cons_append, List.nil_append]
      refine SL.Ok.opG rfl rfl rfl rfl rfl rfl rfl (SL.Pure.not rfl rfl) ?_
      refine SL.Ok.op rfl rfl rfl (SL.Pure.pickF rfl rfl rfl) ?_
      refine SL.Ok.nil ?_
      refine SL.Ok.normThen ?_
      refine hK20 _ _ ?_
      refine SL.Ok.condF' rfl (by simp [eqR]) ?_
      refine SL.Ok.skip' ?_
      refine SL.Ok.normThen ?_
      refine hK19 _ _ ?_
      refine SL.Ok.seq fun K21 hK21 => ?_
      refine SL.Ok.seq fun K22 hK22 => ?_
      refine SL.Ok.region ?_
      refine SL.Ok.op rfl rfl rfl (SL.Pure.assign rfl rfl) ?_
      refine SL.Ok.nil ?_
      refine SL.Ok.normThen ?_
      refine hK22 _ _ ?_
      refine SL.Ok.block ?_
      refine SL.Ok.loop (X := (Nat × RS × BX)) (φ := fun X => X.1 ≤ len2 ∧ rinv X.2.1 ∧ rok b81 X.2.1 X.2.2 ∧ X.2.1.size = size ∧ X.2.1.id = id) (L := fun X => [(1, .int .i64 size), (3, .slice a2 len2 cap2), (4, .pointer (some ⟨b4, 0, none⟩)), (9, .pointer (some ⟨b43, 0, none⟩)), (11, .pointer (some ⟨b11, 0, none⟩)), (13, .pointer (some ⟨b81, 0, none⟩)), (14, .pointer (some ⟨b14, 0, none⟩)), (15, .int .i64 X.1)]) (M := fun X => rmem b43 r x ++ rmem b81 X.2.1 X.2.2 ++ [.blk b14 (.cells (flat (rseg X.2.1)) 41 (0, 0)), .blk b11 (.cells (flat (rseg r)) 41 (0, 0)), .blk b4 (.cells (flat [id.seg]) 23 (0, 0))]) (μ := fun X => len2 - X.1) ?_ ?_
      · exact fun _ _ st => ⟨(0, r, z), ⟨Nat.zero_le _, hi, hokz, hsz, hid⟩, st.to [0, 1, 2, 3, 4, 5, 6] ⟨rfl, rfl, rfl, rfl, rfl, rfl, rfl, rfl, trivial⟩ rfl rfl⟩
      · intro ⟨j, s, y⟩ ⟨hj, hsi, hsok, hssz, hsid⟩
        try dsimp only
        dsimp only at hj hsi hsok hssz hsid
        refine SL.Ok.seq fun K23 hK23 => ?_
        refine SL.Ok.seq fun K24 hK24 => ?_
        refine SL.Ok.region ?_
        refine SL.Ok.op rfl rfl rfl (SL.Pure.move rfl rfl) ?_
        refine SL.Ok.op rfl rfl rfl (SL.Pure.move rfl rfl) ?_
        refine SL.Ok.op rfl rfl rfl (SL.Pure.lenSl rfl rfl rfl Try.underlying24) ?_
        refine SL.Ok.op rfl rfl rfl (SL.Pure.lss rfl rfl rfl) ?_
        refine SL.Ok.nil ?_
        refine SL.Ok.normThen ?_
        refine hK24 _ _ ?_
        refine SL.Ok.cond rfl (fun hc96 => ?_) (fun hc96 => ?_)
        · skip
          have hjl : j < len2 := by simpa using hc96
          rcases hs2 with h0 | ⟨sb, soff, rfl, hsb, E, hE⟩
          · omega
          obtain ⟨hrng, hrd⟩ := hE j hjl
          obtain ⟨v, ci, f, xs, hEk, hvb, hfb, hxl⟩ := rd_rcmd hrd
          rw [hEk] at hrng
          clear hE hrd hEk
          refine SL.Ok.skip' ?_
          refine SL.Ok.normThen ?_
          refine hK23 _ _ ?_
          refine SL.Ok.seq fun K25 hK25 => ?_
          refine SL.Ok.block ?_
          refine SL.Ok.seq fun K26 hK26 => ?_
          refine SL.Ok.seq fun K27 hK27 => ?_
          refine SL.Ok.region ?_
          refine SL.Ok.op rfl rfl rfl (SL.Pure.move rfl rfl) ?_
          refine SL.Ok.op rfl rfl rfl (SL.Pure.move rfl rfl) ?_
          refine SL.Ok.op rfl rfl rfl (SL.Pure.indexAddrS (sz := 35) rfl rfl rfl Try.underlying24 (by kernel_rfl) (by omega) (by omega) rfl) ?_
          refine SL.Ok.op rfl rfl rfl (SL.Pure.fieldAddr (k := 34) rfl rfl (by kernel_rfl) rfl) ?_
          refine SL.Ok.op rfl rfl rfl (SL.Pure.loadOR1 (range_text hrng) hsb (fun h => h) rfl rfl (by kernel_rfl)) ?_
          refine SL.Ok.op rfl rfl rfl (SL.Pure.lenS rfl rfl rfl Try.underlying9) ?_
          refine SL.Ok.op rfl rfl rfl (SL.Pure.gtr rfl rfl rfl) ?_
          refine SL.Ok.nil ?_
          refine SL.Ok.normThen ?_
          refine hK27 _ _ ?_
          refine SL.Ok.cond rfl (fun hc105 => ?_) (fun hc105 => ?_)
          · skip
            refine SL.Ok.seq fun K28 hK28 => ?_
            refine SL.Ok.region ?_
            refine SL.Ok.op rfl rfl rfl (SL.Pure.assign rfl rfl) ?_
            refine SL.Ok.nil ?_
            refine SL.Ok.normThen ?_
            refine hK28 _ _ ?_
            refine SL.Ok.ret (SL.retThen (SL.retBlock (SL.retThen (SL.retThen (SL.retBlock (SL.retThen SL.retHere)))))) (SL.resL rfl (.cons (.tmp rfl) .nil) rfl) (fun w' hM' hK' => ?_)
            first | exact ⟨rfl, hK'⟩ | exact ⟨by simp [SL.retv, eqR, hzz], hK'⟩
          · skip
            refine SL.Ok.skip' ?_
            refine SL.Ok.normThen ?_
            refine hK26 _ _ ?_
            refine SL.Ok.seq fun K29 hK29 => ?_
            refine SL.Ok.held [0, 1, 2, 3, 5, 6] mixed rfl rfl ?_
            simp only [List.replicate, List.length_cons, List.length_nil, Nat.reduceAdd]
            refine SL.OkH.take 1 rfl rfl rfl rfl (by kernel_rfl) (by kernel_rfl) (by kernel_rfl) rfl (fun _ _ _ h => h) [0, 1, 2, 3, 5, 6] rfl rfl (SL.Pure.move rfl rfl) ?_
            refine SL.OkH.take 2 rfl rfl rfl rfl (by kernel_rfl) (by kernel_rfl) (by kernel_rfl) rfl (fun _ _ _ h => h) [0, 1, 2, 3, 5, 6] rfl rfl (SL.Pure.move rfl rfl) ?_
            refine SL.OkH.take 3 rfl rfl rfl rfl (by kernel_rfl) (by kernel_rfl) (by kernel_rfl) rfl (fun _ _ _ h => h) [0, 1, 2, 3, 5, 6] rfl rfl (SL.Pure.indexAddrS (sz := 35) rfl rfl rfl Try.underlying24 (by kernel_rfl) (by omega) (by omega) rfl) ?_
            refine SL.OkH.take 4 rfl rfl rfl rfl (by kernel_rfl) (by kernel_rfl) (by kernel_rfl) rfl (fun _ _ _ h => h) [0, 1, 2, 3, 5, 6] rfl rfl (SL.Pure.loadOR (k := 35) hrng hsb (fun h => h) rfl rfl (by kernel_rfl) rfl (by kernel_rfl)) ?_
            refine SL.OkH.eff 0 rfl rfl (by kernel_rfl) rfl [0, 1, 2, 3, 5, 6] (fun _ => rfl) rfl (SL.Eff.ofPure rfl rfl (by first | exact SL.Pure.loadA 0 (k := 35) rfl rfl rfl (by kernel_rfl) rfl (by kernel_rfl) | exact SL.Pure.loadA 1 (k := 35) rfl rfl rfl (by kernel_rfl) rfl (by kernel_rfl) | exact SL.Pure.loadA 2 (k := 35) rfl rfl rfl (by kernel_rfl) rfl (by kernel_rfl) | exact SL.Pure.loadA 3 (k := 35) rfl rfl rfl (by kernel_rfl) rfl (by kernel_rfl) | exact SL.Pure.loadA 4 (k := 35) rfl rfl rfl (by kernel_rfl) rfl (by kernel_rfl) | exact SL.Pure.loadA 5 (k := 35) rfl rfl rfl (by kernel_rfl) rfl (by kernel_rfl) | exact SL.Pure.loadA 6 (k := 35) rfl rfl rfl (by kernel_rfl) rfl (by kernel_rfl))) ?_
            intro _ _
            refine SL.OkH.eff 5 rfl rfl (by kernel_rfl) rfl [0, 1, 2, 3, 5, 6] (fun _ => rfl) rfl (SL.Eff.callV rfl rfl (by kernel_rfl) rfl rfl (fun w hM hK => refHear_c s v ci f xs (by have := hsi.2.1; have := hsi.2.2; omega) (by omega) w)) ?_
            intro _ _
            try simp only [SL.setN, SL.putD, SL.selM, SL.nth, List.cons_append, List.nil_append]
            refine SL.OkH.take 6 rfl rfl rfl rfl (by kernel_rfl) (by kernel_rfl) (by kernel_rfl) rfl (fun _ _ _ h => h) [0, 1, 2, 3, 5, 6] rfl rfl (SL.Pure.move rfl rfl) ?_
            refine SL.OkH.take 7 rfl rfl rfl rfl (by kernel_rfl) (by kernel_rfl) (by kernel_rfl) rfl (fun _ _ _ h => h) [0, 1, 2, 3, 5, 6] rfl rfl (SL.Pure.extract rfl rfl rfl) ?_
            refine SL.OkH.take 8 rfl rfl rfl rfl (by kernel_rfl) (by kernel_rfl) (by kernel_rfl) rfl (fun _ _ _ h => h) [0, 1, 2, 3, 5, 6] rfl rfl (SL.Pure.extract rfl rfl rfl) ?_
            refine SL.OkH.eff 9 rfl rfl (by kernel_rfl) rfl [0, 1, 2, 3, 5, 6] (fun _ => rfl) rfl (by first | exact SL.Eff.storeG (k := 35) 0 _ rfl rfl rfl rfl rfl rfl (by kernel_rfl) rfl rfl | exact SL.Eff.storeG (k := 35) 1 _ rfl rfl rfl rfl rfl rfl (by kernel_rfl) rfl rfl | exact SL.Eff.storeG (k := 35) 2 _ rfl rfl rfl rfl rfl rfl (by kernel_rfl) rfl rfl | exact SL.Eff.storeG (k := 35) 3 _ rfl rfl rfl rfl rfl rfl (by kernel_rfl) rfl rfl | exact SL.Eff.storeG (k := 35) 4 _ rfl rfl rfl rfl rfl rfl (by kernel_rfl) rfl rfl | exact SL.Eff.storeG (k := 35) 5 _ rfl rfl rfl rfl rfl rfl (by kernel_rfl) rfl rfl | exact SL.Eff.storeG (k := 35) 6 _ rfl rfl rfl rfl rfl rfl (by kernel_rfl) rfl rfl) ?_
            intro _ _
            try simp only [SL.setN, SL.putD, SL.selM, SL.nth, List.cons_append, List.nil_append]
            refine SL.OkH.done (by kernel_rfl) ?_
            refine SL.Ok.normThen ?_
            refine hK29 _ _ ?_
            refine SL.Ok.region ?_
            refine SL.Ok.op rfl rfl rfl (SL.Pure.move rfl rfl) ?_
            refine SL.Ok.op rfl rfl rfl (SL.Pure.move rfl rfl) ?_
            refine SL.Ok.op rfl rfl rfl (SL.Pure.move rfl rfl) ?_
            refine SL.Ok.op rfl rfl rfl (SL.Pure.indexAddrS (sz := 35) rfl rfl rfl Try.underlying24 (by kernel_rfl) (by omega) (by omega) rfl) ?_
            refine SL.Ok.op rfl rfl rfl (SL.Pure.loadOR (k := 35) hrng hsb (fun h => h) rfl rfl (by kernel_rfl) rfl (by kernel_rfl)) ?_
            refine SL.Ok.eff rfl (SL.Eff.callV rfl rfl (by kernel_rfl) rfl rfl (fun w hM hK => own_c v ci f xs w)) ?_
            intro _ _
            try simp only [SL.setN, SL.putD, SL.selM, SL.nth, List.cons_append, List.nil_append]
            refine SL.Ok.eff rfl (SL.Eff.call [2, 3] [0, 1, 4, 5, 6] rfl rfl (by kernel_rfl) rfl rfl rfl rfl (fun w hM hK => hear_c b81 s y hsok hsi v ci f xs w (hM.sel [2, 3] rfl).own)) ?_
            intro y2 hy2
            try simp only [SL.setN, SL.putD, SL.selM, SL.nth, List.cons_append, List.nil_append]
            refine SL.Ok.nil ?_
            obtain ⟨hi2, hid2, hsz2⟩ := hear_inv hsi v ci f xs
            refine SL.Ok.normBlock ?_
            refine SL.Ok.normThen ?_
            refine hK25 _ _ ?_
            refine SL.Ok.region ?_
            refine SL.Ok.op rfl rfl rfl (SL.Pure.move rfl rfl) ?_
            refine SL.Ok.op rfl rfl rfl (SL.Pure.addI rfl rfl rfl rfl (by omega) (by omega)) ?_
            refine SL.Ok.op rfl rfl rfl (SL.Pure.assign rfl rfl) ?_
            refine SL.Ok.nil ?_
            refine SL.Ok.normThen ?_
            exact SL.Ok.round (j + 1, (hear s v ci f xs).1, y2) [2, 3, 0, 1, 4, 5, 6] ⟨by simp only; omega, hi2, hy2, hsz2.trans hssz, hid2.trans hsid⟩ (by simp; omega) ⟨rfl, rfl, rfl, rfl, rfl, rfl, rfl, rfl, trivial⟩ rfl rfl
        · skip
          refine SL.Ok.exit ?_
          refine SL.Ok.exThen ?_
          refine SL.Ok.exThen ?_
          refine SL.Ok.exHere ?_
          refine SL.Ok.normThen ?_
          refine hK21 _ _ ?_
          refine SL.Ok.seq fun K30 hK30 => ?_
          refine SL.Ok.region ?_
          refine SL.Ok.op rfl rfl rfl (SL.Pure.fieldAddr (k := 33) rfl rfl (by kernel_rfl) rfl) ?_
          refine SL.Ok.op rfl rfl rfl (by first | exact SL.Pure.load1 0 rfl rfl rfl rfl (by kernel_rfl) | exact SL.Pure.load1 1 rfl rfl rfl rfl (by kernel_rfl) | exact SL.Pure.load1 2 rfl rfl rfl rfl (by kernel_rfl) | exact SL.Pure.load1 3 rfl rfl rfl rfl (by kernel_rfl) | exact SL.Pure.load1 4 rfl rfl rfl rfl (by kernel_rfl) | exact SL.Pure.load1 5 rfl rfl rfl rfl (by kernel_rfl) | exact SL.Pure.load1 6 rfl rfl rfl rfl (by kernel_rfl)) ?_
          refine SL.Ok.op rfl rfl rfl (SL.Pure.fieldAddr (k := 33) rfl rfl (by kernel_rfl) rfl) ?_
          refine SL.Ok.op rfl rfl rfl (by first | exact SL.Pure.load1 0 rfl rfl rfl rfl (by kernel_rfl) | exact SL.Pure.load1 1 rfl rfl rfl rfl (by kernel_rfl) | exact SL.Pure.load1 2 rfl rfl rfl rfl (by kernel_rfl) | exact SL.Pure.load1 3 rfl rfl rfl rfl (by kernel_rfl) | exact SL.Pure.load1 4 rfl rfl rfl rfl (by kernel_rfl) | exact SL.Pure.load1 5 rfl rfl rfl rfl (by kernel_rfl) | exact SL.Pure.load1 6 rfl rfl rfl rfl (by kernel_rfl)) ?_
          refine SL.Ok.op rfl rfl rfl (SL.Pure.eqS rfl rfl rfl) ?_
          refine SL.Ok.op rfl rfl rfl (SL.Pure.move rfl rfl) ?_
          refine SL.Ok.split (d := 127) rfl (fun hg127 => ?_) (fun hg127 => ?_)
          · have ht : s.t = r.t := by simpa using hg127
            refine SL.Ok.opG rfl rfl rfl rfl rfl rfl rfl (SL.Pure.fieldAddr (k := 34) rfl rfl (by kernel_rfl) rfl) ?_
            refine SL.Ok.opG rfl rfl rfl rfl rfl rfl rfl (by first | exact SL.Pure.load1 0 rfl rfl rfl rfl (by kernel_rfl) | exact SL.Pure.load1 1 rfl rfl rfl rfl (by kernel_rfl) | exact SL.Pure.load1 2 rfl rfl rfl rfl (by kernel_rfl) | exact SL.Pure.load1 3 rfl rfl rfl rfl (by kernel_rfl) | exact SL.Pure.load1 4 rfl rfl rfl rfl (by kernel_rfl) | exact SL.Pure.load1 5 rfl rfl rfl rfl (by kernel_rfl) | exact SL.Pure.load1 6 rfl rfl rfl rfl (by kernel_rfl)) ?_
            refine SL.Ok.opG rfl rfl rfl rfl rfl rfl rfl (SL.Pure.fieldAddr (k := 34) rfl rfl (by kernel_rfl) rfl) ?_
            refine SL.Ok.opG rfl rfl rfl rfl rfl rfl rfl (by first | exact SL.Pure.load1 0 rfl rfl rfl rfl (by kernel_rfl) | exact SL.Pure.load1 1 rfl rfl rfl rfl (by kernel_rfl) | exact SL.Pure.load1 2 rfl rfl rfl rfl (by kernel_rfl) | exact SL.Pure.load1 3 rfl rfl rfl rfl (by kernel_rfl) | exact SL.Pure.load1 4 rfl rfl rfl rfl (by kernel_rfl) | exact SL.Pure.load1 5 rfl rfl rfl rfl (by kernel_rfl) | exact SL.Pure.load1 6 rfl rfl rfl rfl (by kernel_rfl)) ?_
            refine SL.Ok.opG rfl rfl rfl rfl rfl rfl rfl (SL.Pure.eqBool rfl rfl rfl Try.underlying4) ?_
            refine SL.Ok.op rfl rfl rfl (SL.Pure.pickT rfl rfl rfl) ?_
            refine SL.Ok.op rfl rfl rfl (SL.Pure.assign rfl rfl) ?_
            refine SL.Ok.nil ?_
            refine SL.Ok.normThen ?_
            refine hK30 _ _ ?_
            refine SL.Ok.seq fun K31 hK31 => ?_
            refine SL.Ok.region ?_
            refine SL.Ok.op rfl rfl rfl (by first | exact SL.Pure.loadA 0 (k := 32) rfl rfl rfl (by kernel_rfl) rfl (by kernel_rfl) | exact SL.Pure.loadA 1 (k := 32) rfl rfl rfl (by kernel_rfl) rfl (by kernel_rfl) | exact SL.Pure.loadA 2 (k := 32) rfl rfl rfl (by kernel_rfl) rfl (by kernel_rfl) | exact SL.Pure.loadA 3 (k := 32) rfl rfl rfl (by kernel_rfl) rfl (by kernel_rfl) | exact SL.Pure.loadA 4 (k := 32) rfl rfl rfl (by kernel_rfl) rfl (by kernel_rfl) | exact SL.Pure.loadA 5 (k := 32) rfl rfl rfl (by kernel_rfl) rfl (by kernel_rfl) | exact SL.Pure.loadA 6 (k := 32) rfl rfl rfl (by kernel_rfl) rfl (by kernel_rfl)) ?_
            refine SL.Ok.op rfl rfl rfl (SL.Pure.move rfl rfl) ?_
            refine SL.Ok.op rfl rfl rfl (SL.Pure.addI rfl rfl rfl rfl (by omega) (by omega)) ?_
            refine SL.Ok.op rfl rfl rfl (SL.Pure.remI rfl rfl rfl (by omega) (by omega) (by omega)) ?_
            refine SL.Ok.eff rfl (SL.Eff.call [] [0, 1, 2, 3, 4, 5, 6] rfl rfl (by kernel_rfl) rfl rfl rfl rfl (fun w hM hK => newR_ok id ((size + 1) % 100) w (by omega) (by omega))) ?_
            intro b139 _
            try simp only [SL.setN, SL.putD, SL.selM, SL.nth, List.cons_append, List.nil_append]
            refine SL.Ok.op rfl rfl rfl (SL.Pure.move rfl rfl) ?_
            refine SL.Ok.op rfl rfl rfl (SL.Pure.extract rfl rfl rfl) ?_
            refine SL.Ok.op rfl rfl rfl (SL.Pure.extract rfl rfl rfl) ?_
            refine SL.Ok.op rfl rfl rfl (SL.Pure.assign rfl rfl) ?_
            refine SL.Ok.op rfl rfl rfl (SL.Pure.assign rfl rfl) ?_
            refine SL.Ok.nil ?_
            refine SL.Ok.normThen ?_
            refine hK31 _ _ ?_
            refine SL.Ok.seq fun K32 hK32 => ?_
            refine SL.Ok.region ?_
            refine SL.Ok.op rfl rfl rfl (SL.Pure.move rfl rfl) ?_
            refine SL.Ok.op rfl rfl rfl (by first | exact SL.Pure.loadA 0 (k := 35) rfl rfl rfl (by kernel_rfl) rfl (by kernel_rfl) | exact SL.Pure.loadA 1 (k := 35) rfl rfl rfl (by kernel_rfl) rfl (by kernel_rfl) | exact SL.Pure.loadA 2 (k := 35) rfl rfl rfl (by kernel_rfl) rfl (by kernel_rfl) | exact SL.Pure.loadA 3 (k := 35) rfl rfl rfl (by kernel_rfl) rfl (by kernel_rfl) | exact SL.Pure.loadA 4 (k := 35) rfl rfl rfl (by kernel_rfl) rfl (by kernel_rfl) | exact SL.Pure.loadA 5 (k := 35) rfl rfl rfl (by kernel_rfl) rfl (by kernel_rfl) | exact SL.Pure.loadA 6 (k := 35) rfl rfl rfl (by kernel_rfl) rfl (by kernel_rfl) | exact SL.Pure.loadA 7 (k := 35) rfl rfl rfl (by kernel_rfl) rfl (by kernel_rfl) | exact SL.Pure.loadA 8 (k := 35) rfl rfl rfl (by kernel_rfl) rfl (by kernel_rfl)) ?_
            refine SL.Ok.eff rfl (SL.Eff.call [2, 3] [0, 1, 4, 5, 6, 7, 8] rfl rfl (by kernel_rfl) rfl rfl rfl rfl (fun w hM hK => same_c b43 r x hok w (hM.sel [2, 3] rfl).own)) ?_
            intro _ _
            try simp only [SL.setN, SL.putD, SL.selM, SL.nth, List.cons_append, List.nil_append]
            refine SL.Ok.op rfl rfl rfl (SL.Pure.move rfl rfl) ?_
            refine SL.Ok.setT (d := 145) rfl (rfl) ?_
            refine SL.Ok.opG rfl rfl rfl rfl rfl rfl rfl (SL.Pure.move rfl rfl) ?_
            refine SL.Ok.opG rfl rfl rfl rfl rfl rfl rfl (by first | exact SL.Pure.loadA 0 (k := 35) rfl rfl rfl (by kernel_rfl) rfl (by kernel_rfl) | exact SL.Pure.loadA 1 (k := 35) rfl rfl rfl (by kernel_rfl) rfl (by kernel_rfl) | exact SL.Pure.loadA 2 (k := 35) rfl rfl rfl (by kernel_rfl) rfl (by kernel_rfl) | exact SL.Pure.loadA 3 (k := 35) rfl rfl rfl (by kernel_rfl) rfl (by kernel_rfl) | exact SL.Pure.loadA 4 (k := 35) rfl rfl rfl (by kernel_rfl) rfl (by kernel_rfl) | exact SL.Pure.loadA 5 (k := 35) rfl rfl rfl (by kernel_rfl) rfl (by kernel_rfl) | exact SL.Pure.loadA 6 (k := 35) rfl rfl rfl (by kernel_rfl) rfl (by kernel_rfl) | exact SL.Pure.loadA 7 (k := 35) rfl rfl rfl (by kernel_rfl) rfl (by kernel_rfl) | exact SL.Pure.loadA 8 (k := 35) rfl rfl rfl (by kernel_rfl) rfl (by kernel_rfl)) ?_
            refine SL.Ok.effG rfl rfl rfl rfl rfl (SL.Eff.call [4, 5] [0, 1, 2, 3, 6, 7, 8] rfl rfl (by kernel_rfl) rfl rfl rfl rfl (fun w hM hK => same_c b81 s y hsok w (hM.sel [4, 5] rfl).own)) ?_
            intro _ _
            simp only [SL.setN, SL.putD, SL.selM, SL.nth, List.cons_append, List.nil_append]
            refine SL.Ok.op rfl rfl rfl (SL.Pure.pickT rfl rfl rfl) ?_
            refine SL.Ok.op rfl rfl rfl (SL.Pure.move rfl rfl) ?_
            refine SL.Ok.setT (d := 150) rfl (rfl) ?_
            refine SL.Ok.opG rfl rfl rfl rfl rfl rfl rfl (SL.Pure.move rfl rfl) ?_
            refine SL.Ok.opG rfl rfl rfl rfl rfl rfl rfl (SL.Pure.move rfl rfl) ?_
            refine SL.Ok.effG rfl rfl rfl rfl rfl (SL.Eff.call [0, 1, 2, 3] [4, 5, 6, 7, 8] rfl rfl (by kernel_rfl) rfl rfl rfl rfl (fun w hM hK => equal_c b81 b43 s r y x hsok hok w (hM.sel [0, 1, 2, 3] rfl).own)) ?_
            intro _ _
            simp only [SL.setN, SL.putD, SL.selM, SL.nth, List.cons_append, List.nil_append]
            refine SL.Ok.opG rfl rfl rfl rfl rfl rfl rfl (SL.Pure.move rfl rfl) ?_
            refine SL.Ok.opG rfl rfl rfl rfl rfl rfl rfl (SL.Pure.eqBool rfl rfl rfl Try.underlying4) ?_
            refine SL.Ok.op rfl rfl rfl (SL.Pure.pickT rfl rfl rfl) ?_
            refine SL.Ok.op rfl rfl rfl (SL.Pure.move rfl rfl) ?_
            refine SL.Ok.setT (d := 157) rfl (by rw [eqR_l (hsid.trans hid.symm) (hssz.trans hsz.symm)]; simp [ht]) ?_
            refine SL.Ok.opG rfl rfl rfl rfl rfl rfl rfl (SL.Pure.move rfl rfl) ?_
            refine SL.Ok.opG rfl rfl rfl rfl rfl rfl rfl (SL.Pure.move rfl rfl) ?_
            refine SL.Ok.effG rfl rfl rfl rfl rfl (SL.Eff.call [2, 3, 0, 1] [4, 5, 6, 7, 8] rfl rfl (by kernel_rfl) rfl rfl rfl rfl (fun w hM hK => equal_c b43 b81 r s x y hok hsok w (hM.sel [2, 3, 0, 1] rfl).own)) ?_
            intro _ _
            simp only [SL.setN, SL.putD, SL.selM, SL.nth, List.cons_append, List.nil_append]
            refine SL.Ok.opG rfl rfl rfl rfl rfl rfl rfl (SL.Pure.move rfl rfl) ?_
            refine SL.Ok.opG rfl rfl rfl rfl rfl rfl rfl (SL.Pure.eqBool rfl rfl rfl Try.underlying4) ?_
            refine SL.Ok.op rfl rfl rfl (SL.Pure.pickT rfl rfl rfl) ?_
            refine SL.Ok.op rfl rfl rfl (SL.Pure.move rfl rfl) ?_
            refine SL.Ok.setT (d := 164) rfl (by rw [eqR_r (hsid.trans hid.symm) (hssz.trans hsz.symm)]; simp [ht]) ?_
            refine SL.Ok.opG rfl rfl rfl rfl rfl rfl rfl (SL.Pure.move rfl rfl) ?_
            refine SL.Ok.opG rfl rfl rfl rfl rfl rfl rfl (SL.Pure.eqi rfl rfl rfl) ?_
            refine SL.Ok.op rfl rfl rfl (SL.Pure.pickT rfl rfl rfl) ?_
            refine SL.Ok.op rfl rfl rfl (SL.Pure.move rfl rfl) ?_
            refine SL.Ok.setT (d := 168) rfl (rfl) ?_
            refine SL.Ok.opG rfl rfl rfl rfl rfl rfl rfl (SL.Pure.move rfl rfl) ?_
            refine SL.Ok.opG rfl rfl rfl rfl rfl rfl rfl (SL.Pure.move rfl rfl) ?_
            refine SL.Ok.opG rfl rfl rfl rfl rfl rfl rfl (SL.Pure.addI rfl rfl rfl rfl (by omega) (by omega)) ?_
            refine SL.Ok.opG rfl rfl rfl rfl rfl rfl rfl (SL.Pure.remI rfl rfl rfl (by omega) (by omega) (by omega)) ?_
            refine SL.Ok.opG rfl rfl rfl rfl rfl rfl rfl (SL.Pure.eqi rfl rfl rfl) ?_
            refine SL.Ok.opG rfl rfl rfl rfl rfl rfl rfl (SL.Pure.move rfl rfl) ?_
            refine SL.Ok.split (d := 174) rfl (fun hg174 => ?_) (fun hg174 => ?_)
            · skip
              refine SL.Ok.opS rfl rfl rfl rfl rfl rfl rfl ?_
              refine SL.Ok.opS rfl rfl rfl rfl rfl rfl rfl ?_
              refine SL.Ok.opS rfl rfl rfl rfl rfl rfl rfl ?_
              refine SL.Ok.opS rfl rfl rfl rfl rfl rfl rfl ?_
              refine SL.Ok.opG rfl rfl rfl rfl rfl rfl rfl (SL.Pure.pickT rfl rfl rfl) ?_
              refine SL.Ok.op rfl rfl rfl (SL.Pure.pickT rfl rfl rfl) ?_
              refine SL.Ok.op rfl rfl rfl (SL.Pure.assign rfl rfl) ?_
              refine SL.Ok.nil ?_
              refine SL.Ok.normThen ?_
              refine hK32 _ _ ?_
              refine SL.Ok.ret SL.retHere (SL.resL rfl (.cons (.tmp rfl) .nil) rfl) (fun w' hM' hK' => ?_)
              first | exact ⟨rfl, hK'⟩ | exact ⟨by simp [SL.retv, eqR, hzz], hK'⟩
            · have hzz : ¬ r.size = (size + 1) % 100 := by rw [hsz]; simpa using hg174
              refine SL.Ok.opG rfl rfl rfl rfl rfl rfl rfl (SL.Pure.move rfl rfl) ?_
              refine SL.Ok.opG rfl rfl rfl rfl rfl rfl rfl (SL.Pure.move rfl rfl) ?_
              refine SL.Ok.effG rfl rfl rfl rfl rfl (SL.Eff.call [0, 1, 4, 5] [2, 3, 6, 7, 8] rfl rfl (by kernel_rfl) rfl rfl rfl rfl (fun w hM hK => equal_c b43 b139 r ⟨id, (size + 1) % 100, [], false⟩ x ⟨none, none, 0⟩ hok (rok_new ..) w (hM.sel [0, 1, 4, 5] rfl).own)) ?_
              intro _ _
              simp only [SL.setN, SL.putD, SL.selM, SL.nth, List.cons_append, List.nil_append]
              refine SL.Ok.opG rfl rfl rfl rfl rfl rfl rfl (SL.Pure.not rfl rfl) ?_
              refine SL.Ok.opG rfl rfl rfl rfl rfl rfl rfl (SL.Pure.pickF rfl rfl rfl) ?_
              refine SL.Ok.op rfl rfl rfl (SL.Pure.pickT rfl rfl rfl) ?_
              refine SL.Ok.op rfl rfl rfl (SL.Pure.assign rfl rfl) ?_
              refine SL.Ok.nil ?_
              refine SL.Ok.normThen ?_
              refine hK32 _ _ ?_
              refine SL.Ok.ret SL.retHere (SL.resL rfl (.cons (.tmp rfl) .nil) rfl) (fun w' hM' hK' => ?_)
              first | exact ⟨rfl, hK'⟩ | exact ⟨by simp [SL.retv, eqR, hzz], hK'⟩
          · have ht : ¬ s.t = r.t := by simpa using hg127
            refine SL.Ok.opS rfl rfl rfl rfl rfl rfl rfl ?_
            refine SL.Ok.opS rfl rfl rfl rfl rfl rfl rfl ?_
            refine SL.Ok.opS rfl rfl rfl rfl rfl rfl rfl ?_
            refine SL.Ok.opS rfl rfl rfl rfl rfl rfl rfl ?_
            refine SL.Ok.opS rfl rfl rfl rfl rfl rfl rfl ?_
            refine SL.Ok.op rfl rfl rfl (SL.Pure.pickF rfl rfl rfl) ?_
            refine SL.Ok.op rfl rfl rfl (SL.Pure.assign rfl rfl) ?_
            refine SL.Ok.nil ?_
            refine SL.Ok.normThen ?_
            refine hK30 _ _ ?_
            refine SL.Ok.seq fun K33 hK33 => ?_
            refine SL.Ok.region ?_
            refine SL.Ok.op rfl rfl rfl (by first | exact SL.Pure.loadA 0 (k := 32) rfl rfl rfl (by kernel_rfl) rfl (by kernel_rfl) | exact SL.Pure.loadA 1 (k := 32) rfl rfl rfl (by kernel_rfl) rfl (by kernel_rfl) | exact SL.Pure.loadA 2 (k := 32) rfl rfl rfl (by kernel_rfl) rfl (by kernel_rfl) | exact SL.Pure.loadA 3 (k := 32) rfl rfl rfl (by kernel_rfl) rfl (by kernel_rfl) | exact SL.Pure.loadA 4 (k := 32) rfl rfl rfl (by kernel_rfl) rfl (by kernel_rfl) | exact SL.Pure.loadA 5 (k := 32) rfl rfl rfl (by kernel_rfl) rfl (by kernel_rfl) | exact SL.Pure.loadA 6 (k := 32) rfl rfl rfl (by kernel_rfl) rfl (by kernel_rfl)) ?_
            refine SL.Ok.op rfl rfl rfl (SL.Pure.move rfl rfl) ?_
            refine SL.Ok.op rfl rfl rfl (SL.Pure.addI rfl rfl rfl rfl (by omega) (by omega)) ?_
            refine SL.Ok.op rfl rfl rfl (SL.Pure.remI rfl rfl rfl (by omega) (by omega) (by omega)) ?_
            refine SL.Ok.eff rfl (SL.Eff.call [] [0, 1, 2, 3, 4, 5, 6] rfl rfl (by kernel_rfl) rfl rfl rfl rfl (fun w hM hK => newR_ok id ((size + 1) % 100) w (by omega) (by omega))) ?_
            intro b139 _
            try simp only [SL.setN, SL.putD, SL.selM, SL.nth, List.cons_append, List.nil_append]
            refine SL.Ok.op rfl rfl rfl (SL.Pure.move rfl rfl) ?_
            refine SL.Ok.op rfl rfl rfl (SL.Pure.extract rfl rfl rfl) ?_
            refine SL.Ok.op rfl rfl rfl (SL.Pure.extract rfl rfl rfl) ?_
            refine SL.Ok.op rfl rfl rfl (SL.Pure.assign rfl rfl) ?_
            refine SL.Ok.op rfl rfl rfl (SL.Pure.assign rfl rfl) ?_
            refine SL.Ok.nil ?_
            refine SL.Ok.normThen ?_
            refine hK33 _ _ ?_
            refine SL.Ok.seq fun K34 hK34 => ?_
            refine SL.Ok.region ?_
            refine SL.Ok.op rfl rfl rfl (SL.Pure.move rfl rfl) ?_
            refine SL.Ok.op rfl rfl rfl (by first | exact SL.Pure.loadA 0 (k := 35) rfl rfl rfl (by kernel_rfl) rfl (by kernel_rfl) | exact SL.Pure.loadA 1 (k := 35) rfl rfl rfl (by kernel_rfl) rfl (by kernel_rfl) | exact SL.Pure.loadA 2 (k := 35) rfl rfl rfl (by kernel_rfl) rfl (by kernel_rfl) | exact SL.Pure.loadA 3 (k := 35) rfl rfl rfl (by kernel_rfl) rfl (by kernel_rfl) | exact SL.Pure.loadA 4 (k := 35) rfl rfl rfl (by kernel_rfl) rfl (by kernel_rfl) | exact SL.Pure.loadA 5 (k := 35) rfl rfl rfl (by kernel_rfl) rfl (by kernel_rfl) | exact SL.Pure.loadA 6 (k := 35) rfl rfl rfl (by kernel_rfl) rfl (by kernel_rfl) | exact SL.Pure.loadA 7 (k := 35) rfl rfl rfl (by kernel_rfl) rfl (by kernel_rfl) | exact SL.Pure.loadA 8 (k := 35) rfl rfl rfl (by kernel_rfl) rfl (by kernel_rfl)) ?_
            refine SL.Ok.eff rfl (SL.Eff.call [2, 3] [0, 1, 4, 5, 6, 7, 8] rfl rfl (by kernel_rfl) rfl rfl rfl rfl (fun w hM hK => same_c b43 r x hok w (hM.sel [2, 3] rfl).own)) ?_
            intro _ _
            try simp only [SL.setN, SL.putD, SL.selM, SL.nth, List.cons_append, List.nil_append]
            refine SL.Ok.op rfl rfl rfl (SL.Pure.move rfl rfl) ?_
            refine SL.Ok.setT (d := 145) rfl (rfl) ?_
            refine SL.Ok.opG rfl rfl rfl rfl rfl rfl rfl (SL.Pure.move rfl rfl) ?_
            refine SL.Ok.opG rfl rfl rfl rfl rfl rfl rfl (by first | exact SL.Pure.loadA 0 (k := 35) rfl rfl rfl (by kernel_rfl) rfl (by kernel_rfl) | exact SL.Pure.loadA 1 (k := 35) rfl rfl rfl (by kernel_rfl) rfl (by kernel_rfl) | exact SL.Pure.loadA 2 (k := 35) rfl rfl rfl (by kernel_rfl) rfl (by kernel_rfl) | exact SL.Pure.loadA 3 (k := 35) rfl rfl rfl (by kernel_rfl) rfl (by kernel_rfl) | exact SL.Pure.loadA 4 (k := 35) rfl rfl rfl (by kernel_rfl) rfl (by kernel_rfl) | exact SL.Pure.loadA 5 (k := 35) rfl rfl rfl (by kernel_rfl) rfl (by kernel_rfl) | exact SL.Pure.loadA 6 (k := 35) rfl rfl rfl (by kernel_rfl) rfl (by kernel_rfl) | exact SL.Pure.loadA 7 (k := 35) rfl rfl rfl (by kernel_rfl) rfl (by kernel_rfl) | exact SL.Pure.loadA 8 (k := 35) rfl rfl rfl (by kernel_rfl) rfl (by kernel_rfl)) ?_
            refine SL.Ok.effG rfl rfl rfl rfl rfl (SL.Eff.call [4, 5] [0, 1, 2, 3, 6, 7, 8] rfl rfl (by kernel_rfl) rfl rfl rfl rfl (fun w hM hK => same_c b81 s y hsok w (hM.sel [4, 5] rfl).own)) ?_
            intro _ _
            simp only [SL.setN, SL.putD, SL.selM, SL.nth, List.cons_append, List.nil_append]
            refine SL.Ok.op rfl rfl rfl (SL.Pure.pickT rfl rfl rfl) ?_
            refine SL.Ok.op rfl rfl rfl (SL.Pure.move rfl rfl) ?_
            refine SL.Ok.setT (d := 150) rfl (rfl) ?_
            refine SL.Ok.opG rfl rfl rfl rfl rfl rfl rfl (SL.Pure.move rfl rfl) ?_
            refine SL.Ok.opG rfl rfl rfl rfl rfl rfl rfl (SL.Pure.move rfl rfl) ?_
            refine SL.Ok.effG rfl rfl rfl rfl rfl (SL.Eff.call [0, 1, 2, 3] [4, 5, 6, 7, 8] rfl rfl (by kernel_rfl) rfl rfl rfl rfl (fun w hM hK => equal_c b81 b43 s r y x hsok hok w (hM.sel [0, 1, 2, 3] rfl).own)) ?_
            intro _ _
            simp only [SL.setN, SL.putD, SL.selM, SL.nth, List.cons_append, List.nil_append]
            refine SL.Ok.opG rfl rfl rfl rfl rfl rfl rfl (SL.Pure.move rfl rfl) ?_
            refine SL.Ok.opG rfl rfl rfl rfl rfl rfl rfl (SL.Pure.eqBool rfl rfl rfl Try.underlying4) ?_
            refine SL.Ok.op rfl rfl rfl (SL.Pure.pickT rfl rfl rfl) ?_
            refine SL.Ok.op rfl rfl rfl (SL.Pure.move rfl rfl) ?_
            refine SL.Ok.setT (d := 157) rfl (by rw [eqR_l (hsid.trans hid.symm) (hssz.trans hsz.symm)]; simp [ht]) ?_
            refine SL.Ok.opG rfl rfl rfl rfl rfl rfl rfl (SL.Pure.move rfl rfl) ?_
            refine SL.Ok.opG rfl rfl rfl rfl rfl rfl rfl (SL.Pure.move rfl rfl) ?_
            refine SL.Ok.effG rfl rfl rfl rfl rfl (SL.Eff.call [2, 3, 0, 1] [4, 5, 6, 7, 8] rfl rfl (by kernel_rfl) rfl rfl rfl rfl (fun w hM hK => equal_c b43 b81 r s x y hok hsok w (hM.sel [2, 3, 0, 1] rfl).own)) ?_
            intro _ _
            simp only [SL.setN, SL.putD, SL.selM, SL.nth, List.cons_append, List.nil_append]
            refine SL.Ok.opG rfl rfl rfl rfl rfl rfl rfl (SL.Pure.move rfl rfl) ?_
            refine SL.Ok.opG rfl rfl rfl rfl rfl rfl rfl (SL.Pure.eqBool rfl rfl rfl Try.underlying4) ?_
            refine SL.Ok.op rfl rfl rfl (SL.Pure.pickT rfl rfl rfl) ?_
            refine SL.Ok.op rfl rfl rfl (SL.Pure.move rfl rfl) ?_
            refine SL.Ok.setT (d := 164) rfl (by rw [eqR_r (hsid.trans hid.symm) (hssz.trans hsz.symm)]; simp [ht]) ?_
            refine SL.Ok.opG rfl rfl rfl rfl rfl rfl rfl (SL.Pure.move rfl rfl) ?_
            refine SL.Ok.opG rfl rfl rfl rfl rfl rfl rfl (SL.Pure.eqi rfl rfl rfl) ?_
            refine SL.Ok.op rfl rfl rfl (SL.Pure.pickT rfl rfl rfl) ?_
            refine SL.Ok.op rfl rfl rfl (SL.Pure.move rfl rfl) ?_
            refine SL.Ok.setT (d := 168) rfl (rfl) ?_
            refine SL.Ok.opG rfl rfl rfl rfl rfl rfl rfl (SL.Pure.move rfl rfl) ?_
            refine SL.Ok.opG rfl rfl rfl rfl rfl rfl rfl (SL.Pure.move rfl rfl) ?_
            refine SL.Ok.opG rfl rfl rfl rfl rfl rfl rfl (SL.Pure.addI rfl rfl rfl rfl (by omega) (by omega)) ?_
            refine SL.Ok.opG rfl rfl rfl rfl rfl rfl rfl (SL.Pure.remI rfl rfl rfl (by omega) (by omega) (by omega)) ?_
            refine SL.Ok.opG rfl rfl rfl rfl rfl rfl rfl (SL.Pure.eqi rfl rfl rfl) ?_
            refine SL.Ok.opG rfl rfl rfl rfl rfl rfl rfl (SL.Pure.move rfl rfl) ?_
            refine SL.Ok.split (d := 174) rfl (fun hg174 => ?_) (fun hg174 => ?_)
            · skip
              refine SL.Ok.opS rfl rfl rfl rfl rfl rfl rfl ?_
              refine SL.Ok.opS rfl rfl rfl rfl rfl rfl rfl ?_
              refine SL.Ok.opS rfl rfl rfl rfl rfl rfl rfl ?_
              refine SL.Ok.opS rfl rfl rfl rfl rfl rfl rfl ?_
              refine SL.Ok.opG rfl rfl rfl rfl rfl rfl rfl (SL.Pure.pickT rfl rfl rfl) ?_
              refine SL.Ok.op rfl rfl rfl (SL.Pure.pickT rfl rfl rfl) ?_
              refine SL.Ok.op rfl rfl rfl (SL.Pure.assign rfl rfl) ?_
              refine SL.Ok.nil ?_
              refine SL.Ok.normThen ?_
              refine hK34 _ _ ?_
              refine SL.Ok.ret SL.retHere (SL.resL rfl (.cons (.tmp rfl) .nil) rfl) (fun w' hM' hK' => ?_)
              first | exact ⟨rfl, hK'⟩ | exact ⟨by simp [SL.retv, eqR, hzz], hK'⟩
            · have hzz : ¬ r.size = (size + 1) % 100 := by rw [hsz]; simpa using hg174
              refine SL.Ok.opG rfl rfl rfl rfl rfl rfl rfl (SL.Pure.move rfl rfl) ?_
              refine SL.Ok.opG rfl rfl rfl rfl rfl rfl rfl (SL.Pure.move rfl rfl) ?_
              refine SL.Ok.effG rfl rfl rfl rfl rfl (SL.Eff.call [0, 1, 4, 5] [2, 3, 6, 7, 8] rfl rfl (by kernel_rfl) rfl rfl rfl rfl (fun w hM hK => equal_c b43 b139 r ⟨id, (size + 1) % 100, [], false⟩ x ⟨none, none, 0⟩ hok (rok_new ..) w (hM.sel [0, 1, 4, 5] rfl).own)) ?_
              intro _ _
              simp only [SL.setN, SL.putD, SL.selM, SL.nth, List.cons_append, List.nil_append]
              refine SL.Ok.opG rfl rfl rfl rfl rfl rfl rfl (SL.Pure.not rfl rfl) ?_
              refine SL.Ok.opG rfl rfl rfl rfl rfl rfl rfl (SL.Pure.pickF rfl rfl rfl) ?_
              refine SL.Ok.op rfl rfl rfl (SL.Pure.pickT rfl rfl rfl) ?_
              refine SL.Ok.op rfl rfl rfl (SL.Pure.assign rfl rfl) ?_
              refine SL.Ok.nil ?_
              refine SL.Ok.normThen ?_
              refine hK34 _ _ ?_
              refine SL.Ok.ret SL.retHere (SL.resL rfl (.cons (.tmp rfl) .nil) rfl) (fun w' hM' hK' => ?_)
              first | exact ⟨rfl, hK'⟩ | exact ⟨by simp [SL.retv, eqR, hzz], hK'⟩

end Go.Proofs.Ytdlemfjdabnpcaa
