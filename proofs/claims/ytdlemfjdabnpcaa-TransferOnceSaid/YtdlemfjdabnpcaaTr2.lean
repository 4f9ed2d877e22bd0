/- Contracts of package transfer: Hear, Clone, Equal; the reference's Hear. -/
import Derived.Test.YtdlemfjdabnpcaaTr1
namespace Go.Proofs.Ytdlemfjdabnpcaa
open Go.SL Go.RowKit
set_option linter.unusedVariables false
set_option linter.unusedSimpArgs false

/-- what a command does to a receiver -/
def hear (r : RS) (v : Int) (i : B 32) (f : Int) (x : List UInt8) : RS × Int :=
  if r.fin then (r, 10)
  else if v ≠ 7 ∧ v ≠ 8 then (r, 11)
  else if i ≠ r.id then (r, 8)
  else if v = 8 then (if (r.t.length : Int) < r.size then (r, 4) else ({ r with fin := true }, 0))
  else if f ≠ r.t.length then (r, 30)
  else if r.size < r.t.length + x.length then (r, 5)
  else ({ r with t := r.t ++ x }, 0)

abbrev rseg (r : RS) : List Seg := [r.id.seg, Seg.one (.int .i64 r.size) rfl, Seg.one (str r.t) rfl, Seg.one (.bool r.fin) rfl]

theorem hear_fin {r : RS} {v : Int} {i : B 32} {f : Int} {x : List UInt8} (h : r.fin = true) : hear r v i f x = (r, 10) := by simp [hear, h]
theorem hear_kind {r : RS} {v : Int} {i : B 32} {f : Int} {x : List UInt8} (h : r.fin = false) (h1 : v ≠ 7) (h2 : v ≠ 8) : hear r v i f x = (r, 11) := by simp [hear, h, h1, h2]
theorem hear_id {r : RS} {v : Int} {i : B 32} {f : Int} {x : List UInt8} (h : r.fin = false) (h1 : v = 7 ∨ v = 8) (h2 : i ≠ r.id) : hear r v i f x = (r, 8) := by
  unfold hear; rw [if_neg (by simp [h]), if_neg (by omega), if_pos h2]
theorem hear_short {r : RS} {i : B 32} {f : Int} {x : List UInt8} (h : r.fin = false) (h2 : i = r.id) (h3 : (r.t.length : Int) < r.size) : hear r 8 i f x = (r, 4) := by
  unfold hear; rw [if_neg (by simp [h]), if_neg (by omega), if_neg (by simp [h2]), if_pos rfl, if_pos h3]
theorem hear_done {r : RS} {i : B 32} {f : Int} {x : List UInt8} (h : r.fin = false) (h2 : i = r.id) (h3 : ¬ (r.t.length : Int) < r.size) : hear r 8 i f x = ({ r with fin := true }, 0) := by
  unfold hear; rw [if_neg (by simp [h]), if_neg (by omega), if_neg (by simp [h2]), if_pos rfl, if_neg h3]
theorem hear_seq {r : RS} {i : B 32} {f : Int} {x : List UInt8} (h : r.fin = false) (h2 : i = r.id) (h3 : f ≠ r.t.length) : hear r 7 i f x = (r, 30) := by
  unfold hear; rw [if_neg (by simp [h]), if_neg (by omega), if_neg (by simp [h2]), if_neg (by omega), if_pos h3]
theorem hear_long {r : RS} {i : B 32} {f : Int} {x : List UInt8} (h : r.fin = false) (h2 : i = r.id) (h3 : f = r.t.length) (h4 : r.size < r.t.length + x.length) : hear r 7 i f x = (r, 5) := by
  unfold hear; rw [if_neg (by simp [h]), if_neg (by omega), if_neg (by simp [h2]), if_neg (by omega), if_neg (by simp [h3]), if_pos h4]
theorem hear_data {r : RS} {i : B 32} {f : Int} {x : List UInt8} (h : r.fin = false) (h2 : i = r.id) (h3 : f = r.t.length) (h4 : ¬ r.size < r.t.length + x.length) : hear r 7 i f x = ({ r with t := r.t ++ x }, 0) := by
  unfold hear; rw [if_neg (by simp [h]), if_neg (by omega), if_neg (by simp [h2]), if_neg (by omega), if_neg (by simp [h3]), if_neg h4]

theorem hear_inv {r : RS} (h : rinv r) (v : Int) (i : B 32) (f : Int) (x : List UInt8) : rinv (hear r v i f x).1 ∧ (hear r v i f x).1.id = r.id ∧ (hear r v i f x).1.size = r.size := by
  obtain ⟨h0, h1, h2⟩ := h
  unfold hear
  (repeat' split) <;> (refine ⟨⟨h0, h1, ?_⟩, rfl, rfl⟩; first | exact h2 | (simp only [List.length_append]; omega))

theorem refHear_c (r : RS) (v : Int) (i : B 32) (f : Int) (x : List UInt8) (hr : r.t.length ≤ 1000000) (hx : x.length ≤ 140737488355328) (w : World) :
    Calls Try.prog 12 [.agg (flat (rseg r)), .agg (flat (rcmd v i f x))].toArray w fun e w' => e = .returned (.tuple #[.agg (flat (rseg (hear r v i f x).1)), .int .i64 (hear r v i f x).2]) ∧ Keeps none1 w w' := by
  by_cases h1 : r.fin = true
  · rw [hear_fin h1]
    refine SL.calls_ok (n := 61) (W := SL.none1) (m := []) Try.func12 rfl Try.ntmps12 rfl (SL.Mem.nil _ _ _) ?_
    simp only [SL.enum, Nat.reduceAdd]
    refine SL.Ok.seq fun K1 hK1 => ?_
    refine SL.Ok.region ?_
    refine SL.Ok.eff rfl (SL.Eff.box _ rfl rfl rfl rfl rfl) ?_
    intro b2 _
    try simp only [SL.setN, SL.putD, SL.selM, SL.nth, List.cons_append, List.nil_append]
    refine SL.Ok.eff rfl (SL.Eff.box _ rfl rfl rfl rfl rfl) ?_
    intro b3 _
    try simp only [SL.setN, SL.putD, SL.selM, SL.nth, List.cons_append, List.nil_append]
    refine SL.Ok.eff rfl (SL.Eff.alloc [(B.zero 32).seg, Seg.one (.int .i64 0) rfl, Seg.one (str []) rfl, Seg.one (.bool false) rfl] rfl rfl rfl (by kernel_rfl)) ?_
    intro b4 _
    try simp only [SL.setN, SL.putD, SL.selM, SL.nth, List.cons_append, List.nil_append]
    refine SL.Ok.op rfl rfl rfl (SL.Pure.assign rfl rfl) ?_
    refine SL.Ok.nil ?_
    refine SL.Ok.normThen ?_
    refine hK1 _ _ ?_
    refine SL.Ok.seq fun K2 hK2 => ?_
    refine SL.Ok.seq fun K3 hK3 => ?_
    refine SL.Ok.region ?_
    refine SL.Ok.op rfl rfl rfl (SL.Pure.fieldAddr (k := 34) rfl rfl (by kernel_rfl) rfl) ?_
    refine SL.Ok.op rfl rfl rfl (by first | exact SL.Pure.load1 0 rfl rfl rfl rfl (by kernel_rfl) | exact SL.Pure.load1 1 rfl rfl rfl rfl (by kernel_rfl) | exact SL.Pure.load1 2 rfl rfl rfl rfl (by kernel_rfl)) ?_
    refine SL.Ok.nil ?_
    refine SL.Ok.normThen ?_
    refine hK3 _ _ ?_
    refine SL.Ok.condT' rfl (by simp [h1]) ?_
    refine SL.Ok.seq fun K4 hK4 => ?_
    refine SL.Ok.region ?_
    refine SL.Ok.op rfl rfl rfl (by first | exact SL.Pure.loadA 0 (k := 35) rfl rfl rfl (by kernel_rfl) rfl (by kernel_rfl) | exact SL.Pure.loadA 1 (k := 35) rfl rfl rfl (by kernel_rfl) rfl (by kernel_rfl) | exact SL.Pure.loadA 2 (k := 35) rfl rfl rfl (by kernel_rfl) rfl (by kernel_rfl)) ?_
    refine SL.Ok.eff rfl (by first | exact SL.Eff.storeG (k := 35) 0 _ rfl rfl rfl rfl rfl rfl (by kernel_rfl) rfl rfl | exact SL.Eff.storeG (k := 35) 1 _ rfl rfl rfl rfl rfl rfl (by kernel_rfl) rfl rfl | exact SL.Eff.storeG (k := 35) 2 _ rfl rfl rfl rfl rfl rfl (by kernel_rfl) rfl rfl) ?_
    intro _ _
    try simp only [SL.setN, SL.putD, SL.selM, SL.nth, List.cons_append, List.nil_append]
    refine SL.Ok.op rfl rfl rfl (SL.Pure.assign rfl rfl) ?_
    refine SL.Ok.nil ?_
    refine SL.Ok.normThen ?_
    refine hK4 _ _ ?_
    refine SL.Ok.ret (SL.retThen SL.retHere) (SL.resL rfl (.cons (SL.RV.cellA 0 (k := 35) rfl rfl (by kernel_rfl) rfl (by kernel_rfl)) (.cons (.tmp rfl) .nil)) rfl) (fun w' hM' hK' => ?_)
    exact ⟨rfl, hK'⟩
  have h1' : r.fin = false := by simpa using h1
  by_cases h2 : v = 7 ∨ v = 8
  rotate_left
  · rw [hear_kind h1' (by omega) (by omega)]
    refine SL.calls_ok (n := 61) (W := SL.none1) (m := []) Try.func12 rfl Try.ntmps12 rfl (SL.Mem.nil _ _ _) ?_
    simp only [SL.enum, Nat.reduceAdd]
    refine SL.Ok.seq fun K1 hK1 => ?_
    refine SL.Ok.region ?_
    refine SL.Ok.eff rfl (SL.Eff.box _ rfl rfl rfl rfl rfl) ?_
    intro b2 _
    try simp only [SL.setN, SL.putD, SL.selM, SL.nth, List.cons_append, List.nil_append]
    refine SL.Ok.eff rfl (SL.Eff.box _ rfl rfl rfl rfl rfl) ?_
    intro b3 _
    try simp only [SL.setN, SL.putD, SL.selM, SL.nth, List.cons_append, List.nil_append]
    refine SL.Ok.eff rfl (SL.Eff.alloc [(B.zero 32).seg, Seg.one (.int .i64 0) rfl, Seg.one (str []) rfl, Seg.one (.bool false) rfl] rfl rfl rfl (by kernel_rfl)) ?_
    intro b4 _
    try simp only [SL.setN, SL.putD, SL.selM, SL.nth, List.cons_append, List.nil_append]
    refine SL.Ok.op rfl rfl rfl (SL.Pure.assign rfl rfl) ?_
    refine SL.Ok.nil ?_
    refine SL.Ok.normThen ?_
    refine hK1 _ _ ?_
    refine SL.Ok.seq fun K2 hK2 => ?_
    refine SL.Ok.seq fun K3 hK3 => ?_
    refine SL.Ok.region ?_
    refine SL.Ok.op rfl rfl rfl (SL.Pure.fieldAddr (k := 34) rfl rfl (by kernel_rfl) rfl) ?_
    refine SL.Ok.op rfl rfl rfl (by first | exact SL.Pure.load1 0 rfl rfl rfl rfl (by kernel_rfl) | exact SL.Pure.load1 1 rfl rfl rfl rfl (by kernel_rfl) | exact SL.Pure.load1 2 rfl rfl rfl rfl (by kernel_rfl)) ?_
    refine SL.Ok.nil ?_
    refine SL.Ok.normThen ?_
    refine hK3 _ _ ?_
    refine SL.Ok.condF' rfl (by simp [h1']) ?_
    refine SL.Ok.skip' ?_
    refine SL.Ok.normThen ?_
    refine hK2 _ _ ?_
    refine SL.Ok.seq fun K4 hK4 => ?_
    refine SL.Ok.seq fun K5 hK5 => ?_
    refine SL.Ok.region ?_
    refine SL.Ok.op rfl rfl rfl (SL.Pure.fieldAddr (k := 0) rfl rfl (by kernel_rfl) rfl) ?_
    refine SL.Ok.op rfl rfl rfl (by first | exact SL.Pure.load1 0 rfl rfl rfl rfl (by kernel_rfl) | exact SL.Pure.load1 1 rfl rfl rfl rfl (by kernel_rfl) | exact SL.Pure.load1 2 rfl rfl rfl rfl (by kernel_rfl)) ?_
    refine SL.Ok.op rfl rfl rfl (SL.Pure.nei rfl rfl rfl) ?_
    refine SL.Ok.op rfl rfl rfl (SL.Pure.move rfl rfl) ?_
    refine SL.Ok.setT (d := 12) rfl (by simp; omega) ?_
    refine SL.Ok.opG rfl rfl rfl rfl rfl rfl rfl (SL.Pure.fieldAddr (k := 0) rfl rfl (by kernel_rfl) rfl) ?_
    refine SL.Ok.opG rfl rfl rfl rfl rfl rfl rfl (by first | exact SL.Pure.load1 0 rfl rfl rfl rfl (by kernel_rfl) | exact SL.Pure.load1 1 rfl rfl rfl rfl (by kernel_rfl) | exact SL.Pure.load1 2 rfl rfl rfl rfl (by kernel_rfl)) ?_
    refine SL.Ok.opG rfl rfl rfl rfl rfl rfl rfl (SL.Pure.nei rfl rfl rfl) ?_
    refine SL.Ok.op rfl rfl rfl (SL.Pure.pickT rfl rfl rfl) ?_
    refine SL.Ok.nil ?_
    refine SL.Ok.normThen ?_
    refine hK5 _ _ ?_
    refine SL.Ok.condT' rfl (by simp; omega) ?_
    refine SL.Ok.seq fun K6 hK6 => ?_
    refine SL.Ok.region ?_
    refine SL.Ok.op rfl rfl rfl (by first | exact SL.Pure.loadA 0 (k := 35) rfl rfl rfl (by kernel_rfl) rfl (by kernel_rfl) | exact SL.Pure.loadA 1 (k := 35) rfl rfl rfl (by kernel_rfl) rfl (by kernel_rfl) | exact SL.Pure.loadA 2 (k := 35) rfl rfl rfl (by kernel_rfl) rfl (by kernel_rfl)) ?_
    refine SL.Ok.eff rfl (by first | exact SL.Eff.storeG (k := 35) 0 _ rfl rfl rfl rfl rfl rfl (by kernel_rfl) rfl rfl | exact SL.Eff.storeG (k := 35) 1 _ rfl rfl rfl rfl rfl rfl (by kernel_rfl) rfl rfl | exact SL.Eff.storeG (k := 35) 2 _ rfl rfl rfl rfl rfl rfl (by kernel_rfl) rfl rfl) ?_
    intro _ _
    try simp only [SL.setN, SL.putD, SL.selM, SL.nth, List.cons_append, List.nil_append]
    refine SL.Ok.op rfl rfl rfl (SL.Pure.assign rfl rfl) ?_
    refine SL.Ok.nil ?_
    refine SL.Ok.normThen ?_
    refine hK6 _ _ ?_
    refine SL.Ok.ret (SL.retThen SL.retHere) (SL.resL rfl (.cons (SL.RV.cellA 0 (k := 35) rfl rfl (by kernel_rfl) rfl (by kernel_rfl)) (.cons (.tmp rfl) .nil)) rfl) (fun w' hM' hK' => ?_)
    exact ⟨rfl, hK'⟩
  by_cases h3 : i = r.id
  rotate_left
  · rw [hear_id h1' h2 h3]
    rcases h2 with rfl | rfl
    · skip
      refine SL.calls_ok (n := 61) (W := SL.none1) (m := []) Try.func12 rfl Try.ntmps12 rfl (SL.Mem.nil _ _ _) ?_
      simp only [SL.enum, Nat.reduceAdd]
      refine SL.Ok.seq fun K1 hK1 => ?_
      refine SL.Ok.region ?_
      refine SL.Ok.eff rfl (SL.Eff.box _ rfl rfl rfl rfl rfl) ?_
      intro b2 _
      try simp only [SL.setN, SL.putD, SL.selM, SL.nth, List.cons_append, List.nil_append]
      refine SL.Ok.eff rfl (SL.Eff.box _ rfl rfl rfl rfl rfl) ?_
      intro b3 _
      try simp only [SL.setN, SL.putD, SL.selM, SL.nth, List.cons_append, List.nil_append]
      refine SL.Ok.eff rfl (SL.Eff.alloc [(B.zero 32).seg, Seg.one (.int .i64 0) rfl, Seg.one (str []) rfl, Seg.one (.bool false) rfl] rfl rfl rfl (by kernel_rfl)) ?_
      intro b4 _
      try simp only [SL.setN, SL.putD, SL.selM, SL.nth, List.cons_append, List.nil_append]
      refine SL.Ok.op rfl rfl rfl (SL.Pure.assign rfl rfl) ?_
      refine SL.Ok.nil ?_
      refine SL.Ok.normThen ?_
      refine hK1 _ _ ?_
      refine SL.Ok.seq fun K2 hK2 => ?_
      refine SL.Ok.seq fun K3 hK3 => ?_
      refine SL.Ok.region ?_
      refine SL.Ok.op rfl rfl rfl (SL.Pure.fieldAddr (k := 34) rfl rfl (by kernel_rfl) rfl) ?_
      refine SL.Ok.op rfl rfl rfl (by first | exact SL.Pure.load1 0 rfl rfl rfl rfl (by kernel_rfl) | exact SL.Pure.load1 1 rfl rfl rfl rfl (by kernel_rfl) | exact SL.Pure.load1 2 rfl rfl rfl rfl (by kernel_rfl)) ?_
      refine SL.Ok.nil ?_
      refine SL.Ok.normThen ?_
      refine hK3 _ _ ?_
      refine SL.Ok.condF' rfl (by simp [h1']) ?_
      refine SL.Ok.skip' ?_
      refine SL.Ok.normThen ?_
      refine hK2 _ _ ?_
      refine SL.Ok.seq fun K4 hK4 => ?_
      refine SL.Ok.seq fun K5 hK5 => ?_
      refine SL.Ok.region ?_
      refine SL.Ok.op rfl rfl rfl (SL.Pure.fieldAddr (k := 0) rfl rfl (by kernel_rfl) rfl) ?_
      refine SL.Ok.op rfl rfl rfl (by first | exact SL.Pure.load1 0 rfl rfl rfl rfl (by kernel_rfl) | exact SL.Pure.load1 1 rfl rfl rfl rfl (by kernel_rfl) | exact SL.Pure.load1 2 rfl rfl rfl rfl (by kernel_rfl)) ?_
      refine SL.Ok.op rfl rfl rfl (SL.Pure.nei rfl rfl rfl) ?_
      refine SL.Ok.op rfl rfl rfl (SL.Pure.move rfl rfl) ?_
      refine SL.Ok.setF (d := 12) rfl (by simp) ?_
      refine SL.Ok.opS rfl rfl rfl rfl rfl rfl rfl ?_
      refine SL.Ok.opS rfl rfl rfl rfl rfl rfl rfl ?_
      refine SL.Ok.opS rfl rfl rfl rfl rfl rfl rfl ?_
      refine SL.Ok.op rfl rfl rfl (SL.Pure.pickF rfl rfl rfl) ?_
      refine SL.Ok.nil ?_
      refine SL.Ok.normThen ?_
      refine hK5 _ _ ?_
      refine SL.Ok.condF rfl ?_
      refine SL.Ok.skip' ?_
      refine SL.Ok.normThen ?_
      refine hK4 _ _ ?_
      refine SL.Ok.seq fun K6 hK6 => ?_
      refine SL.Ok.seq fun K7 hK7 => ?_
      refine SL.Ok.region ?_
      refine SL.Ok.op rfl rfl rfl (SL.Pure.fieldAddr (k := 1) rfl rfl (by kernel_rfl) rfl) ?_
      refine SL.Ok.op rfl rfl rfl (by first | exact SL.Pure.loadA 0 (k := 32) rfl rfl rfl (by kernel_rfl) rfl (by kernel_rfl) | exact SL.Pure.loadA 1 (k := 32) rfl rfl rfl (by kernel_rfl) rfl (by kernel_rfl) | exact SL.Pure.loadA 2 (k := 32) rfl rfl rfl (by kernel_rfl) rfl (by kernel_rfl)) ?_
      refine SL.Ok.op rfl rfl rfl (SL.Pure.fieldAddr (k := 0) rfl rfl (by kernel_rfl) rfl) ?_
      refine SL.Ok.op rfl rfl rfl (by first | exact SL.Pure.loadA 0 (k := 32) rfl rfl rfl (by kernel_rfl) rfl (by kernel_rfl) | exact SL.Pure.loadA 1 (k := 32) rfl rfl rfl (by kernel_rfl) rfl (by kernel_rfl) | exact SL.Pure.loadA 2 (k := 32) rfl rfl rfl (by kernel_rfl) rfl (by kernel_rfl)) ?_
      refine SL.Ok.op rfl rfl rfl (SL.Pure.neB rfl rfl rfl Try.underlying23 Try.underlying5 (by kernel_rfl) (by kernel_rfl)) ?_
      refine SL.Ok.nil ?_
      refine SL.Ok.normThen ?_
      refine hK7 _ _ ?_
      refine SL.Ok.condT' rfl (by simp [h3]) ?_
      refine SL.Ok.seq fun K8 hK8 => ?_
      refine SL.Ok.region ?_
      refine SL.Ok.op rfl rfl rfl (by first | exact SL.Pure.loadA 0 (k := 35) rfl rfl rfl (by kernel_rfl) rfl (by kernel_rfl) | exact SL.Pure.loadA 1 (k := 35) rfl rfl rfl (by kernel_rfl) rfl (by kernel_rfl) | exact SL.Pure.loadA 2 (k := 35) rfl rfl rfl (by kernel_rfl) rfl (by kernel_rfl)) ?_
      refine SL.Ok.eff rfl (by first | exact SL.Eff.storeG (k := 35) 0 _ rfl rfl rfl rfl rfl rfl (by kernel_rfl) rfl rfl | exact SL.Eff.storeG (k := 35) 1 _ rfl rfl rfl rfl rfl rfl (by kernel_rfl) rfl rfl | exact SL.Eff.storeG (k := 35) 2 _ rfl rfl rfl rfl rfl rfl (by kernel_rfl) rfl rfl) ?_
      intro _ _
      try simp only [SL.setN, SL.putD, SL.selM, SL.nth, List.cons_append, List.nil_append]
      refine SL.Ok.op rfl rfl rfl (SL.Pure.assign rfl rfl) ?_
      refine SL.Ok.nil ?_
      refine SL.Ok.normThen ?_
      refine hK8 _ _ ?_
      refine SL.Ok.ret (SL.retThen SL.retHere) (SL.resL rfl (.cons (SL.RV.cellA 0 (k := 35) rfl rfl (by kernel_rfl) rfl (by kernel_rfl)) (.cons (.tmp rfl) .nil)) rfl) (fun w' hM' hK' => ?_)
      exact ⟨rfl, hK'⟩
    · skip
      refine SL.calls_ok (n := 61) (W := SL.none1) (m := []) Try.func12 rfl Try.ntmps12 rfl (SL.Mem.nil _ _ _) ?_
      simp only [SL.enum, Nat.reduceAdd]
      refine SL.Ok.seq fun K1 hK1 => ?_
      refine SL.Ok.region ?_
      refine SL.Ok.eff rfl (SL.Eff.box _ rfl rfl rfl rfl rfl) ?_
      intro b2 _
      try simp only [SL.setN, SL.putD, SL.selM, SL.nth, List.cons_append, List.nil_append]
      refine SL.Ok.eff rfl (SL.Eff.box _ rfl rfl rfl rfl rfl) ?_
      intro b3 _
      try simp only [SL.setN, SL.putD, SL.selM, SL.nth, List.cons_append, List.nil_append]
      refine SL.Ok.eff rfl (SL.Eff.alloc [(B.zero 32).seg, Seg.one (.int .i64 0) rfl, Seg.one (str []) rfl, Seg.one (.bool false) rfl] rfl rfl rfl (by kernel_rfl)) ?_
      intro b4 _
      try simp only [SL.setN, SL.putD, SL.selM, SL.nth, List.cons_append, List.nil_append]
      refine SL.Ok.op rfl rfl rfl (SL.Pure.assign rfl rfl) ?_
      refine SL.Ok.nil ?_
      refine SL.Ok.normThen ?_
      refine hK1 _ _ ?_
      refine SL.Ok.seq fun K2 hK2 => ?_
      refine SL.Ok.seq fun K3 hK3 => ?_
      refine SL.Ok.region ?_
      refine SL.Ok.op rfl rfl rfl (SL.Pure.fieldAddr (k := 34) rfl rfl (by kernel_rfl) rfl) ?_
      refine SL.Ok.op rfl rfl rfl (by first | exact SL.Pure.load1 0 rfl rfl rfl rfl (by kernel_rfl) | exact SL.Pure.load1 1 rfl rfl rfl rfl (by kernel_rfl) | exact SL.Pure.load1 2 rfl rfl rfl rfl (by kernel_rfl)) ?_
      refine SL.Ok.nil ?_
      refine SL.Ok.normThen ?_
      refine hK3 _ _ ?_
      refine SL.Ok.condF' rfl (by simp [h1']) ?_
      refine SL.Ok.skip' ?_
      refine SL.Ok.normThen ?_
      refine hK2 _ _ ?_
      refine SL.Ok.seq fun K4 hK4 => ?_
      refine SL.Ok.seq fun K5 hK5 => ?_
      refine SL.Ok.region ?_
      refine SL.Ok.op rfl rfl rfl (SL.Pure.fieldAddr (k := 0) rfl rfl (by kernel_rfl) rfl) ?_
      refine SL.Ok.op rfl rfl rfl (by first | exact SL.Pure.load1 0 rfl rfl rfl rfl (by kernel_rfl) | exact SL.Pure.load1 1 rfl rfl rfl rfl (by kernel_rfl) | exact SL.Pure.load1 2 rfl rfl rfl rfl (by kernel_rfl)) ?_
      refine SL.Ok.op rfl rfl rfl (SL.Pure.nei rfl rfl rfl) ?_
      refine SL.Ok.op rfl rfl rfl (SL.Pure.move rfl rfl) ?_
      refine SL.Ok.setT (d := 12) rfl (by simp) ?_
      refine SL.Ok.opG rfl rfl rfl rfl rfl rfl rfl (SL.Pure.fieldAddr (k := 0) rfl rfl (by kernel_rfl) rfl) ?_
      refine SL.Ok.opG rfl rfl rfl rfl rfl rfl rfl (by first | exact SL.Pure.load1 0 rfl rfl rfl rfl (by kernel_rfl) | exact SL.Pure.load1 1 rfl rfl rfl rfl (by kernel_rfl) | exact SL.Pure.load1 2 rfl rfl rfl rfl (by kernel_rfl)) ?_
      refine SL.Ok.opG rfl rfl rfl rfl rfl rfl rfl (SL.Pure.nei rfl rfl rfl) ?_
      refine SL.Ok.op rfl rfl rfl (SL.Pure.pickT rfl rfl rfl) ?_
      refine SL.Ok.nil ?_
      refine SL.Ok.normThen ?_
      refine hK5 _ _ ?_
      refine SL.Ok.condF' rfl (by simp) ?_
      refine SL.Ok.skip' ?_
      refine SL.Ok.normThen ?_
      refine hK4 _ _ ?_
      refine SL.Ok.seq fun K6 hK6 => ?_
      refine SL.Ok.seq fun K7 hK7 => ?_
      refine SL.Ok.region ?_
      refine SL.Ok.op rfl rfl rfl (SL.Pure.fieldAddr (k := 1) rfl rfl (by kernel_rfl) rfl) ?_
      refine SL.Ok.op rfl rfl rfl (by first | exact SL.Pure.loadA 0 (k := 32) rfl rfl rfl (by kernel_rfl) rfl (by kernel_rfl) | exact SL.Pure.loadA 1 (k := 32) rfl rfl rfl (by kernel_rfl) rfl (by kernel_rfl) | exact SL.Pure.loadA 2 (k := 32) rfl rfl rfl (by kernel_rfl) rfl (by kernel_rfl)) ?_
      refine SL.Ok.op rfl rfl rfl (SL.Pure.fieldAddr (k := 0) rfl rfl (by kernel_rfl) rfl) ?_
      refine SL.Ok.op rfl rfl rfl (by first | exact SL.Pure.loadA 0 (k := 32) rfl rfl rfl (by kernel_rfl) rfl (by kernel_rfl) | exact SL.Pure.loadA 1 (k := 32) rfl rfl rfl (by kernel_rfl) rfl (by kernel_rfl) | exact SL.Pure.loadA 2 (k := 32) rfl rfl rfl (by kernel_rfl) rfl (by kernel_rfl)) ?_
      refine SL.Ok.op rfl rfl rfl (SL.Pure.neB rfl rfl rfl Try.underlying23 Try.underlying5 (by kernel_rfl) (by kernel_rfl)) ?_
      refine SL.Ok.nil ?_
      refine SL.Ok.normThen ?_
      refine hK7 _ _ ?_
      refine SL.Ok.condT' rfl (by simp [h3]) ?_
      refine SL.Ok.seq fun K8 hK8 => ?_
      refine SL.Ok.region ?_
      refine SL.Ok.op rfl rfl rfl (by first | exact SL.Pure.loadA 0 (k := 35) rfl rfl rfl (by kernel_rfl) rfl (by kernel_rfl) | exact SL.Pure.loadA 1 (k := 35) rfl rfl rfl (by kernel_rfl) rfl (by kernel_rfl) | exact SL.Pure.loadA 2 (k := 35) rfl rfl rfl (by kernel_rfl) rfl (by kernel_rfl)) ?_
      refine SL.Ok.eff rfl (by first | exact SL.Eff.storeG (k := 35) 0 _ rfl rfl rfl rfl rfl rfl (by kernel_rfl) rfl rfl | exact SL.Eff.storeG (k := 35) 1 _ rfl rfl rfl rfl rfl rfl (by kernel_rfl) rfl rfl | exact SL.Eff.storeG (k := 35) 2 _ rfl rfl rfl rfl rfl rfl (by kernel_rfl) rfl rfl) ?_
      intro _ _
      try simp only [SL.setN, SL.putD, SL.selM, SL.nth, List.cons_append, List.nil_append]
      refine SL.Ok.op rfl rfl rfl (SL.Pure.assign rfl rfl) ?_
      refine SL.Ok.nil ?_
      refine SL.Ok.normThen ?_
      refine hK8 _ _ ?_
      refine SL.Ok.ret (SL.retThen SL.retHere) (SL.resL rfl (.cons (SL.RV.cellA 0 (k := 35) rfl rfl (by kernel_rfl) rfl (by kernel_rfl)) (.cons (.tmp rfl) .nil)) rfl) (fun w' hM' hK' => ?_)
      exact ⟨rfl, hK'⟩
  rcases h2 with rfl | rfl
  · by_cases h4 : f = r.t.length
    · by_cases h5 : r.size < r.t.length + x.length
      · rw [hear_long h1' h3 h4 h5]
        refine SL.calls_ok (n := 61) (W := SL.none1) (m := []) Try.func12 rfl Try.ntmps12 rfl (SL.Mem.nil _ _ _) ?_
        simp only [SL.enum, Nat.reduceAdd]
        refine SL.Ok.seq fun K1 hK1 => ?_
        refine SL.Ok.region ?_
        refine SL.Ok.eff rfl (SL.Eff.box _ rfl rfl rfl rfl rfl) ?_
        intro b2 _
        try simp only [SL.setN, SL.putD, SL.selM, SL.nth, List.cons_append, List.nil_append]
        refine SL.Ok.eff rfl (SL.Eff.box _ rfl rfl rfl rfl rfl) ?_
        intro b3 _
        try simp only [SL.setN, SL.putD, SL.selM, SL.nth, List.cons_append, List.nil_append]
        refine SL.Ok.eff rfl (SL.Eff.alloc [(B.zero 32).seg, Seg.one (.int .i64 0) rfl, Seg.one (str []) rfl, Seg.one (.bool false) rfl] rfl rfl rfl (by kernel_rfl)) ?_
        intro b4 _
        try simp only [SL.setN, SL.putD, SL.selM, SL.nth, List.cons_append, List.nil_append]
        refine SL.Ok.op rfl rfl rfl (SL.Pure.assign rfl rfl) ?_
        refine SL.Ok.nil ?_
        refine SL.Ok.normThen ?_
        refine hK1 _ _ ?_
        refine SL.Ok.seq fun K2 hK2 => ?_
        refine SL.Ok.seq fun K3 hK3 => ?_
        refine SL.Ok.region ?_
        refine SL.Ok.op rfl rfl rfl (SL.Pure.fieldAddr (k := 34) rfl rfl (by kernel_rfl) rfl) ?_
        refine SL.Ok.op rfl rfl rfl (by first | exact SL.Pure.load1 0 rfl rfl rfl rfl (by kernel_rfl) | exact SL.Pure.load1 1 rfl rfl rfl rfl (by kernel_rfl) | exact SL.Pure.load1 2 rfl rfl rfl rfl (by kernel_rfl)) ?_
        refine SL.Ok.nil ?_
        refine SL.Ok.normThen ?_
        refine hK3 _ _ ?_
        refine SL.Ok.condF' rfl (by simp [h1']) ?_
        refine SL.Ok.skip' ?_
        refine SL.Ok.normThen ?_
        refine hK2 _ _ ?_
        refine SL.Ok.seq fun K4 hK4 => ?_
        refine SL.Ok.seq fun K5 hK5 => ?_
        refine SL.Ok.region ?_
        refine SL.Ok.op rfl rfl rfl (SL.Pure.fieldAddr (k := 0) rfl rfl (by kernel_rfl) rfl) ?_
        refine SL.Ok.op rfl rfl rfl (by first | exact SL.Pure.load1 0 rfl rfl rfl rfl (by kernel_rfl) | exact SL.Pure.load1 1 rfl rfl rfl rfl (by kernel_rfl) | exact SL.Pure.load1 2 rfl rfl rfl rfl (by kernel_rfl)) ?_
        refine SL.Ok.op rfl rfl rfl (SL.Pure.nei rfl rfl rfl) ?_
        refine SL.Ok.op rfl rfl rfl (SL.Pure.move rfl rfl) ?_
        refine SL.Ok.setF (d := 12) rfl (by simp) ?_
        refine SL.Ok.opS rfl rfl rfl rfl rfl rfl rfl ?_
        refine SL.Ok.opS rfl rfl rfl rfl rfl rfl rfl ?_
        refine SL.Ok.opS rfl rfl rfl rfl rfl rfl rfl ?_
        refine SL.Ok.op rfl rfl rfl (SL.Pure.pickF rfl rfl rfl) ?_
        refine SL.Ok.nil ?_
        refine SL.Ok.normThen ?_
        refine hK5 _ _ ?_
        refine SL.Ok.condF rfl ?_
        refine SL.Ok.skip' ?_
        refine SL.Ok.normThen ?_
        refine hK4 _ _ ?_
        refine SL.Ok.seq fun K6 hK6 => ?_
        refine SL.Ok.seq fun K7 hK7 => ?_
        refine SL.Ok.region ?_
        refine SL.Ok.op rfl rfl rfl (SL.Pure.fieldAddr (k := 1) rfl rfl (by kernel_rfl) rfl) ?_
        refine SL.Ok.op rfl rfl rfl (by first | exact SL.Pure.loadA 0 (k := 32) rfl rfl rfl (by kernel_rfl) rfl (by kernel_rfl) | exact SL.Pure.loadA 1 (k := 32) rfl rfl rfl (by kernel_rfl) rfl (by kernel_rfl) | exact SL.Pure.loadA 2 (k := 32) rfl rfl rfl (by kernel_rfl) rfl (by kernel_rfl)) ?_
        refine SL.Ok.op rfl rfl rfl (SL.Pure.fieldAddr (k := 0) rfl rfl (by kernel_rfl) rfl) ?_
        refine SL.Ok.op rfl rfl rfl (by first | exact SL.Pure.loadA 0 (k := 32) rfl rfl rfl (by kernel_rfl) rfl (by kernel_rfl) | exact SL.Pure.loadA 1 (k := 32) rfl rfl rfl (by kernel_rfl) rfl (by kernel_rfl) | exact SL.Pure.loadA 2 (k := 32) rfl rfl rfl (by kernel_rfl) rfl (by kernel_rfl)) ?_
        refine SL.Ok.op rfl rfl rfl (SL.Pure.neB rfl rfl rfl Try.underlying23 Try.underlying5 (by kernel_rfl) (by kernel_rfl)) ?_
        refine SL.Ok.nil ?_
        refine SL.Ok.normThen ?_
        refine hK7 _ _ ?_
        refine SL.Ok.condF' rfl (by simp [h3]) ?_
        refine SL.Ok.skip' ?_
        refine SL.Ok.normThen ?_
        refine hK6 _ _ ?_
        refine SL.Ok.seq fun K8 hK8 => ?_
        refine SL.Ok.seq fun K9 hK9 => ?_
        refine SL.Ok.region ?_
        refine SL.Ok.op rfl rfl rfl (SL.Pure.fieldAddr (k := 0) rfl rfl (by kernel_rfl) rfl) ?_
        refine SL.Ok.op rfl rfl rfl (by first | exact SL.Pure.load1 0 rfl rfl rfl rfl (by kernel_rfl) | exact SL.Pure.load1 1 rfl rfl rfl rfl (by kernel_rfl) | exact SL.Pure.load1 2 rfl rfl rfl rfl (by kernel_rfl)) ?_
        refine SL.Ok.op rfl rfl rfl (SL.Pure.eqi rfl rfl rfl) ?_
        refine SL.Ok.nil ?_
        refine SL.Ok.normThen ?_
        refine hK9 _ _ ?_
        refine SL.Ok.condF' rfl (by simp) ?_
        refine SL.Ok.skip' ?_
        refine SL.Ok.normThen ?_
        refine hK8 _ _ ?_
        refine SL.Ok.seq fun K10 hK10 => ?_
        refine SL.Ok.seq fun K11 hK11 => ?_
        refine SL.Ok.region ?_
        refine SL.Ok.op rfl rfl rfl (SL.Pure.fieldAddr (k := 33) rfl rfl (by kernel_rfl) rfl) ?_
        refine SL.Ok.op rfl rfl rfl (by first | exact SL.Pure.load1 0 rfl rfl rfl rfl (by kernel_rfl) | exact SL.Pure.load1 1 rfl rfl rfl rfl (by kernel_rfl) | exact SL.Pure.load1 2 rfl rfl rfl rfl (by kernel_rfl)) ?_
        refine SL.Ok.op rfl rfl rfl (SL.Pure.fieldAddr (k := 33) rfl rfl (by kernel_rfl) rfl) ?_
        refine SL.Ok.op rfl rfl rfl (by first | exact SL.Pure.load1 0 rfl rfl rfl rfl (by kernel_rfl) | exact SL.Pure.load1 1 rfl rfl rfl rfl (by kernel_rfl) | exact SL.Pure.load1 2 rfl rfl rfl rfl (by kernel_rfl)) ?_
        refine SL.Ok.op rfl rfl rfl (SL.Pure.lenS rfl rfl rfl Try.underlying9) ?_
        refine SL.Ok.op rfl rfl rfl (SL.Pure.nei rfl rfl rfl) ?_
        refine SL.Ok.nil ?_
        refine SL.Ok.normThen ?_
        refine hK11 _ _ ?_
        refine SL.Ok.condF' rfl (by simp [h4]) ?_
        refine SL.Ok.skip' ?_
        refine SL.Ok.normThen ?_
        refine hK10 _ _ ?_
        refine SL.Ok.seq fun K12 hK12 => ?_
        refine SL.Ok.seq fun K13 hK13 => ?_
        refine SL.Ok.region ?_
        refine SL.Ok.op rfl rfl rfl (SL.Pure.fieldAddr (k := 33) rfl rfl (by kernel_rfl) rfl) ?_
        refine SL.Ok.op rfl rfl rfl (by first | exact SL.Pure.load1 0 rfl rfl rfl rfl (by kernel_rfl) | exact SL.Pure.load1 1 rfl rfl rfl rfl (by kernel_rfl) | exact SL.Pure.load1 2 rfl rfl rfl rfl (by kernel_rfl)) ?_
        refine SL.Ok.op rfl rfl rfl (SL.Pure.lenS rfl rfl rfl Try.underlying9) ?_
        refine SL.Ok.op rfl rfl rfl (SL.Pure.fieldAddr (k := 34) rfl rfl (by kernel_rfl) rfl) ?_
        refine SL.Ok.op rfl rfl rfl (by first | exact SL.Pure.load1 0 rfl rfl rfl rfl (by kernel_rfl) | exact SL.Pure.load1 1 rfl rfl rfl rfl (by kernel_rfl) | exact SL.Pure.load1 2 rfl rfl rfl rfl (by kernel_rfl)) ?_
        refine SL.Ok.op rfl rfl rfl (SL.Pure.lenS rfl rfl rfl Try.underlying9) ?_
        refine SL.Ok.op rfl rfl rfl (SL.Pure.addI rfl rfl rfl rfl (by omega) (by omega)) ?_
        refine SL.Ok.op rfl rfl rfl (SL.Pure.fieldAddr (k := 32) rfl rfl (by kernel_rfl) rfl) ?_
        refine SL.Ok.op rfl rfl rfl (by first | exact SL.Pure.load1 0 rfl rfl rfl rfl (by kernel_rfl) | exact SL.Pure.load1 1 rfl rfl rfl rfl (by kernel_rfl) | exact SL.Pure.load1 2 rfl rfl rfl rfl (by kernel_rfl)) ?_
        refine SL.Ok.op rfl rfl rfl (SL.Pure.gtr rfl rfl rfl) ?_
        refine SL.Ok.nil ?_
        refine SL.Ok.normThen ?_
        refine hK13 _ _ ?_
        refine SL.Ok.condT' rfl (by simp; omega) ?_
        refine SL.Ok.seq fun K14 hK14 => ?_
        refine SL.Ok.region ?_
        refine SL.Ok.op rfl rfl rfl (by first | exact SL.Pure.loadA 0 (k := 35) rfl rfl rfl (by kernel_rfl) rfl (by kernel_rfl) | exact SL.Pure.loadA 1 (k := 35) rfl rfl rfl (by kernel_rfl) rfl (by kernel_rfl) | exact SL.Pure.loadA 2 (k := 35) rfl rfl rfl (by kernel_rfl) rfl (by kernel_rfl)) ?_
        refine SL.Ok.eff rfl (by first | exact SL.Eff.storeG (k := 35) 0 _ rfl rfl rfl rfl rfl rfl (by kernel_rfl) rfl rfl | exact SL.Eff.storeG (k := 35) 1 _ rfl rfl rfl rfl rfl rfl (by kernel_rfl) rfl rfl | exact SL.Eff.storeG (k := 35) 2 _ rfl rfl rfl rfl rfl rfl (by kernel_rfl) rfl rfl) ?_
        intro _ _
        try simp only [SL.setN, SL.putD, SL.selM, SL.nth, List.cons_append, List.nil_append]
        refine SL.Ok.op rfl rfl rfl (SL.Pure.assign rfl rfl) ?_
        refine SL.Ok.nil ?_
        refine SL.Ok.normThen ?_
        refine hK14 _ _ ?_
        refine SL.Ok.ret (SL.retThen SL.retHere) (SL.resL rfl (.cons (SL.RV.cellA 0 (k := 35) rfl rfl (by kernel_rfl) rfl (by kernel_rfl)) (.cons (.tmp rfl) .nil)) rfl) (fun w' hM' hK' => ?_)
        exact ⟨rfl, hK'⟩
      · rw [hear_data h1' h3 h4 h5]
        refine SL.calls_ok (n := 61) (W := SL.none1) (m := []) Try.func12 rfl Try.ntmps12 rfl (SL.Mem.nil _ _ _) ?_
        simp only [SL.enum, Nat.reduceAdd]
        refine SL.Ok.seq fun K1 hK1 => ?_
        refine SL.Ok.region ?_
        refine SL.Ok.eff rfl (SL.Eff.box _ rfl rfl rfl rfl rfl) ?_
        intro b2 _
        try simp only [SL.setN, SL.putD, SL.selM, SL.nth, List.cons_append, List.nil_append]
        refine SL.Ok.eff rfl (SL.Eff.box _ rfl rfl rfl rfl rfl) ?_
        intro b3 _
        try simp only [SL.setN, SL.putD, SL.selM, SL.nth, List.cons_append, List.nil_append]
        refine SL.Ok.eff rfl (SL.Eff.alloc [(B.zero 32).seg, Seg.one (.int .i64 0) rfl, Seg.one (str []) rfl, Seg.one (.bool false) rfl] rfl rfl rfl (by kernel_rfl)) ?_
        intro b4 _
        try simp only [SL.setN, SL.putD, SL.selM, SL.nth, List.cons_append, List.nil_append]
        refine SL.Ok.op rfl rfl rfl (SL.Pure.assign rfl rfl) ?_
        refine SL.Ok.nil ?_
        refine SL.Ok.normThen ?_
        refine hK1 _ _ ?_
        refine SL.Ok.seq fun K2 hK2 => ?_
        refine SL.Ok.seq fun K3 hK3 => ?_
        refine SL.Ok.region ?_
        refine SL.Ok.op rfl rfl rfl (SL.Pure.fieldAddr (k := 34) rfl rfl (by kernel_rfl) rfl) ?_
        refine SL.Ok.op rfl rfl rfl (by first | exact SL.Pure.load1 0 rfl rfl rfl rfl (by kernel_rfl) | exact SL.Pure.load1 1 rfl rfl rfl rfl (by kernel_rfl) | exact SL.Pure.load1 2 rfl rfl rfl rfl (by kernel_rfl)) ?_
        refine SL.Ok.nil ?_
        refine SL.Ok.normThen ?_
        refine hK3 _ _ ?_
        refine SL.Ok.condF' rfl (by simp [h1']) ?_
        refine SL.Ok.skip' ?_
        refine SL.Ok.normThen ?_
        refine hK2 _ _ ?_
        refine SL.Ok.seq fun K4 hK4 => ?_
        refine SL.Ok.seq fun K5 hK5 => ?_
        refine SL.Ok.region ?_
        refine SL.Ok.op rfl rfl rfl (SL.Pure.fieldAddr (k := 0) rfl rfl (by kernel_rfl) rfl) ?_
        refine SL.Ok.op rfl rfl rfl (by first | exact SL.Pure.load1 0 rfl rfl rfl rfl (by kernel_rfl) | exact SL.Pure.load1 1 rfl rfl rfl rfl (by kernel_rfl) | exact SL.Pure.load1 2 rfl rfl rfl rfl (by kernel_rfl)) ?_
        refine SL.Ok.op rfl rfl rfl (SL.Pure.nei rfl rfl rfl) ?_
        refine SL.Ok.op rfl rfl rfl (SL.Pure.move rfl rfl) ?_
        refine SL.Ok.setF (d := 12) rfl (by simp) ?_
        refine SL.Ok.opS rfl rfl rfl rfl rfl rfl rfl ?_
        refine SL.Ok.opS rfl rfl rfl rfl rfl rfl rfl ?_
        refine SL.Ok.opS rfl rfl rfl rfl rfl rfl rfl ?_
        refine SL.Ok.op rfl rfl rfl (SL.Pure.pickF rfl rfl rfl) ?_
        refine SL.Ok.nil ?_
        refine SL.Ok.normThen ?_
        refine hK5 _ _ ?_
        refine SL.Ok.condF rfl ?_
        refine SL.Ok.skip' ?_
        refine SL.Ok.normThen ?_
        refine hK4 _ _ ?_
        refine SL.Ok.seq fun K6 hK6 => ?_
        refine SL.Ok.seq fun K7 hK7 => ?_
        refine SL.Ok.region ?_
        refine SL.Ok.op rfl rfl rfl (SL.Pure.fieldAddr (k := 1) rfl rfl (by kernel_rfl) rfl) ?_
        refine SL.Ok.op rfl rfl rfl (by first | exact SL.Pure.loadA 0 (k := 32) rfl rfl rfl (by kernel_rfl) rfl (by kernel_rfl) | exact SL.Pure.loadA 1 (k := 32) rfl rfl rfl (by kernel_rfl) rfl (by kernel_rfl) | exact SL.Pure.loadA 2 (k := 32) rfl rfl rfl (by kernel_rfl) rfl (by kernel_rfl)) ?_
        refine SL.Ok.op rfl rfl rfl (SL.Pure.fieldAddr (k := 0) rfl rfl (by kernel_rfl) rfl) ?_
        refine SL.Ok.op rfl rfl rfl (by first | exact SL.Pure.loadA 0 (k := 32) rfl rfl rfl (by kernel_rfl) rfl (by kernel_rfl) | exact SL.Pure.loadA 1 (k := 32) rfl rfl rfl (by kernel_rfl) rfl (by kernel_rfl) | exact SL.Pure.loadA 2 (k := 32) rfl rfl rfl (by kernel_rfl) rfl (by kernel_rfl)) ?_
        refine SL.Ok.op rfl rfl rfl (SL.Pure.neB rfl rfl rfl Try.underlying23 Try.underlying5 (by kernel_rfl) (by kernel_rfl)) ?_
        refine SL.Ok.nil ?_
        refine SL.Ok.normThen ?_
        refine hK7 _ _ ?_
        refine SL.Ok.condF' rfl (by simp [h3]) ?_
        refine SL.Ok.skip' ?_
        refine SL.Ok.normThen ?_
        refine hK6 _ _ ?_
        refine SL.Ok.seq fun K8 hK8 => ?_
        refine SL.Ok.seq fun K9 hK9 => ?_
        refine SL.Ok.region ?_
        refine SL.Ok.op rfl rfl rfl (SL.Pure.fieldAddr (k := 0) rfl rfl (by kernel_rfl) rfl) ?_
        refine SL.Ok.op rfl rfl rfl (by first | exact SL.Pure.load1 0 rfl rfl rfl rfl (by kernel_rfl) | exact SL.Pure.load1 1 rfl rfl rfl rfl (by kernel_rfl) | exact SL.Pure.load1 2 rfl rfl rfl rfl (by kernel_rfl)) ?_
        refine SL.Ok.op rfl rfl rfl (SL.Pure.eqi rfl rfl rfl) ?_
        refine SL.Ok.nil ?_
        refine SL.Ok.normThen ?_
        refine hK9 _ _ ?_
        refine SL.Ok.condF' rfl (by simp) ?_
        refine SL.Ok.skip' ?_
        refine SL.Ok.normThen ?_
        refine hK8 _ _ ?_
        refine SL.Ok.seq fun K10 hK10 => ?_
        refine SL.Ok.seq fun K11 hK11 => ?_
        refine SL.Ok.region ?_
        refine SL.Ok.op rfl rfl rfl (SL.Pure.fieldAddr (k := 33) rfl rfl (by kernel_rfl) rfl) ?_
        refine SL.Ok.op rfl rfl rfl (by first | exact SL.Pure.load1 0 rfl rfl rfl rfl (by kernel_rfl) | exact SL.Pure.load1 1 rfl rfl rfl rfl (by kernel_rfl) | exact SL.Pure.load1 2 rfl rfl rfl rfl (by kernel_rfl)) ?_
        refine SL.Ok.op rfl rfl rfl (SL.Pure.fieldAddr (k := 33) rfl rfl (by kernel_rfl) rfl) ?_
        refine SL.Ok.op rfl rfl rfl (by first | exact SL.Pure.load1 0 rfl rfl rfl rfl (by kernel_rfl) | exact SL.Pure.load1 1 rfl rfl rfl rfl (by kernel_rfl) | exact SL.Pure.load1 2 rfl rfl rfl rfl (by kernel_rfl)) ?_
        refine SL.Ok.op rfl rfl rfl (SL.Pure.lenS rfl rfl rfl Try.underlying9) ?_
        refine SL.Ok.op rfl rfl rfl (SL.Pure.nei rfl rfl rfl) ?_
        refine SL.Ok.nil ?_
        refine SL.Ok.normThen ?_
        refine hK11 _ _ ?_
        refine SL.Ok.condF' rfl (by simp [h4]) ?_
        refine SL.Ok.skip' ?_
        refine SL.Ok.normThen ?_
        refine hK10 _ _ ?_
        refine SL.Ok.seq fun K12 hK12 => ?_
        refine SL.Ok.seq fun K13 hK13 => ?_
        refine SL.Ok.region ?_
        refine SL.Ok.op rfl rfl rfl (SL.Pure.fieldAddr (k := 33) rfl rfl (by kernel_rfl) rfl) ?_
        refine SL.Ok.op rfl rfl rfl (by first | exact SL.Pure.load1 0 rfl rfl rfl rfl (by kernel_rfl) | exact SL.Pure.load1 1 rfl rfl rfl rfl (by kernel_rfl) | exact SL.Pure.load1 2 rfl rfl rfl rfl (by kernel_rfl)) ?_
        refine SL.Ok.op rfl rfl rfl (SL.Pure.lenS rfl rfl rfl Try.underlying9) ?_
        refine SL.Ok.op rfl rfl rfl (SL.Pure.fieldAddr (k := 34) rfl rfl (by kernel_rfl) rfl) ?_
        refine SL.Ok.op rfl rfl rfl (by first | exact SL.Pure.load1 0 rfl rfl rfl rfl (by kernel_rfl) | exact SL.Pure.load1 1 rfl rfl rfl rfl (by kernel_rfl) | exact SL.Pure.load1 2 rfl rfl rfl rfl (by kernel_rfl)) ?_
        refine SL.Ok.op rfl rfl rfl (SL.Pure.lenS rfl rfl rfl Try.underlying9) ?_
        refine SL.Ok.op rfl rfl rfl (SL.Pure.addI rfl rfl rfl rfl (by omega) (by omega)) ?_
        refine SL.Ok.op rfl rfl rfl (SL.Pure.fieldAddr (k := 32) rfl rfl (by kernel_rfl) rfl) ?_
        refine SL.Ok.op rfl rfl rfl (by first | exact SL.Pure.load1 0 rfl rfl rfl rfl (by kernel_rfl) | exact SL.Pure.load1 1 rfl rfl rfl rfl (by kernel_rfl) | exact SL.Pure.load1 2 rfl rfl rfl rfl (by kernel_rfl)) ?_
        refine SL.Ok.op rfl rfl rfl (SL.Pure.gtr rfl rfl rfl) ?_
        refine SL.Ok.nil ?_
        refine SL.Ok.normThen ?_
        refine hK13 _ _ ?_
        refine SL.Ok.condF' rfl (by simp; omega) ?_
        refine SL.Ok.skip' ?_
        refine SL.Ok.normThen ?_
        refine hK12 _ _ ?_
        refine SL.Ok.seq fun K14 hK14 => ?_
        refine SL.Ok.region ?_
        refine SL.Ok.op rfl rfl rfl (SL.Pure.fieldAddr (k := 33) rfl rfl (by kernel_rfl) rfl) ?_
        refine SL.Ok.op rfl rfl rfl (by first | exact SL.Pure.load1 0 rfl rfl rfl rfl (by kernel_rfl) | exact SL.Pure.load1 1 rfl rfl rfl rfl (by kernel_rfl) | exact SL.Pure.load1 2 rfl rfl rfl rfl (by kernel_rfl)) ?_
        refine SL.Ok.op rfl rfl rfl (SL.Pure.fieldAddr (k := 34) rfl rfl (by kernel_rfl) rfl) ?_
        refine SL.Ok.op rfl rfl rfl (by first | exact SL.Pure.load1 0 rfl rfl rfl rfl (by kernel_rfl) | exact SL.Pure.load1 1 rfl rfl rfl rfl (by kernel_rfl) | exact SL.Pure.load1 2 rfl rfl rfl rfl (by kernel_rfl)) ?_
        refine SL.Ok.op rfl rfl rfl (SL.Pure.addS rfl rfl rfl (by omega)) ?_
        refine SL.Ok.op rfl rfl rfl (SL.Pure.fieldAddr (k := 33) rfl rfl (by kernel_rfl) rfl) ?_
        refine SL.Ok.eff rfl (by first | exact SL.Eff.storeG (k := 1) 0 [SL.Seg.one _ rfl] rfl rfl rfl rfl rfl rfl (by kernel_rfl) rfl rfl | exact SL.Eff.storeG (k := 1) 1 [SL.Seg.one _ rfl] rfl rfl rfl rfl rfl rfl (by kernel_rfl) rfl rfl | exact SL.Eff.storeG (k := 1) 2 [SL.Seg.one _ rfl] rfl rfl rfl rfl rfl rfl (by kernel_rfl) rfl rfl) ?_
        intro _ _
        try simp only [SL.setN, SL.putD, SL.selM, SL.nth, List.cons_append, List.nil_append]
        refine SL.Ok.nil ?_
        refine SL.Ok.normThen ?_
        refine hK14 _ _ ?_
        refine SL.Ok.seq fun K15 hK15 => ?_
        refine SL.Ok.region ?_
        refine SL.Ok.op rfl rfl rfl (by first | exact SL.Pure.loadA 0 (k := 35) rfl rfl rfl (by kernel_rfl) rfl (by kernel_rfl) | exact SL.Pure.loadA 1 (k := 35) rfl rfl rfl (by kernel_rfl) rfl (by kernel_rfl) | exact SL.Pure.loadA 2 (k := 35) rfl rfl rfl (by kernel_rfl) rfl (by kernel_rfl)) ?_
        refine SL.Ok.eff rfl (by first | exact SL.Eff.storeG (k := 35) 0 _ rfl rfl rfl rfl rfl rfl (by kernel_rfl) rfl rfl | exact SL.Eff.storeG (k := 35) 1 _ rfl rfl rfl rfl rfl rfl (by kernel_rfl) rfl rfl | exact SL.Eff.storeG (k := 35) 2 _ rfl rfl rfl rfl rfl rfl (by kernel_rfl) rfl rfl) ?_
        intro _ _
        try simp only [SL.setN, SL.putD, SL.selM, SL.nth, List.cons_append, List.nil_append]
        refine SL.Ok.op rfl rfl rfl (SL.Pure.assign rfl rfl) ?_
        refine SL.Ok.nil ?_
        refine SL.Ok.normThen ?_
        refine hK15 _ _ ?_
        refine SL.Ok.ret SL.retHere (SL.resL rfl (.cons (SL.RV.cellA 0 (k := 35) rfl rfl (by kernel_rfl) rfl (by kernel_rfl)) (.cons (.tmp rfl) .nil)) rfl) (fun w' hM' hK' => ?_)
        exact ⟨rfl, hK'⟩
    · rw [hear_seq h1' h3 h4]
      refine SL.calls_ok (n := 61) (W := SL.none1) (m := []) Try.func12 rfl Try.ntmps12 rfl (SL.Mem.nil _ _ _) ?_
      simp only [SL.enum, Nat.reduceAdd]
      refine SL.Ok.seq fun K1 hK1 => ?_
      refine SL.Ok.region ?_
      refine SL.Ok.eff rfl (SL.Eff.box _ rfl rfl rfl rfl rfl) ?_
      intro b2 _
      try simp only [SL.setN, SL.putD, SL.selM, SL.nth, List.cons_append, List.nil_append]
      refine SL.Ok.eff rfl (SL.Eff.box _ rfl rfl rfl rfl rfl) ?_
      intro b3 _
      try simp only [SL.setN, SL.putD, SL.selM, SL.nth, List.cons_append, List.nil_append]
      refine SL.Ok.eff rfl (SL.Eff.alloc [(B.zero 32).seg, Seg.one (.int .i64 0) rfl, Seg.one (str []) rfl, Seg.one (.bool false) rfl] rfl rfl rfl (by kernel_rfl)) ?_
      intro b4 _
      try simp only [SL.setN, SL.putD, SL.selM, SL.nth, List.cons_append, List.nil_append]
      refine SL.Ok.op rfl rfl rfl (SL.Pure.assign rfl rfl) ?_
      refine SL.Ok.nil ?_
      refine SL.Ok.normThen ?_
      refine hK1 _ _ ?_
      refine SL.Ok.seq fun K2 hK2 => ?_
      refine SL.Ok.seq fun K3 hK3 => ?_
      refine SL.Ok.region ?_
      refine SL.Ok.op rfl rfl rfl (SL.Pure.fieldAddr (k := 34) rfl rfl (by kernel_rfl) rfl) ?_
      refine SL.Ok.op rfl rfl rfl (by first | exact SL.Pure.load1 0 rfl rfl rfl rfl (by kernel_rfl) | exact SL.Pure.load1 1 rfl rfl rfl rfl (by kernel_rfl) | exact SL.Pure.load1 2 rfl rfl rfl rfl (by kernel_rfl)) ?_
      refine SL.Ok.nil ?_
      refine SL.Ok.normThen ?_
      refine hK3 _ _ ?_
      refine SL.Ok.condF' rfl (by simp [h1']) ?_
      refine SL.Ok.skip' ?_
      refine SL.Ok.normThen ?_
      refine hK2 _ _ ?_
      refine SL.Ok.seq fun K4 hK4 => ?_
      refine SL.Ok.seq fun K5 hK5 => ?_
      refine SL.Ok.region ?_
      refine SL.Ok.op rfl rfl rfl (SL.Pure.fieldAddr (k := 0) rfl rfl (by kernel_rfl) rfl) ?_
      refine SL.Ok.op rfl rfl rfl (by first | exact SL.Pure.load1 0 rfl rfl rfl rfl (by kernel_rfl) | exact SL.Pure.load1 1 rfl rfl rfl rfl (by kernel_rfl) | exact SL.Pure.load1 2 rfl rfl rfl rfl (by kernel_rfl)) ?_
      refine SL.Ok.op rfl rfl rfl (SL.Pure.nei rfl rfl rfl) ?_
      refine SL.Ok.op rfl rfl rfl (SL.Pure.move rfl rfl) ?_
      refine SL.Ok.setF (d := 12) rfl (by simp) ?_
      refine SL.Ok.opS rfl rfl rfl rfl rfl rfl rfl ?_
      refine SL.Ok.opS rfl rfl rfl rfl rfl rfl rfl ?_
      refine SL.Ok.opS rfl rfl rfl rfl rfl rfl rfl ?_
      refine SL.Ok.op rfl rfl rfl (SL.Pure.pickF rfl rfl rfl) ?_
      refine SL.Ok.nil ?_
      refine SL.Ok.normThen ?_
      refine hK5 _ _ ?_
      refine SL.Ok.condF rfl ?_
      refine SL.Ok.skip' ?_
      refine SL.Ok.normThen ?_
      refine hK4 _ _ ?_
      refine SL.Ok.seq fun K6 hK6 => ?_
      refine SL.Ok.seq fun K7 hK7 => ?_
      refine SL.Ok.region ?_
      refine SL.Ok.op rfl rfl rfl (SL.Pure.fieldAddr (k := 1) rfl rfl (by kernel_rfl) rfl) ?_
      refine SL.Ok.op rfl rfl rfl (by first | exact SL.Pure.loadA 0 (k := 32) rfl rfl rfl (by kernel_rfl) rfl (by kernel_rfl) | exact SL.Pure.loadA 1 (k := 32) rfl rfl rfl (by kernel_rfl) rfl (by kernel_rfl) | exact SL.Pure.loadA 2 (k := 32) rfl rfl rfl (by kernel_rfl) rfl (by kernel_rfl)) ?_
      refine SL.Ok.op rfl rfl rfl (SL.Pure.fieldAddr (k := 0) rfl rfl (by kernel_rfl) rfl) ?_
      refine SL.Ok.op rfl rfl rfl (by first | exact SL.Pure.loadA 0 (k := 32) rfl rfl rfl (by kernel_rfl) rfl (by kernel_rfl) | exact SL.Pure.loadA 1 (k := 32) rfl rfl rfl (by kernel_rfl) rfl (by kernel_rfl) | exact SL.Pure.loadA 2 (k := 32) rfl rfl rfl (by kernel_rfl) rfl (by kernel_rfl)) ?_
      refine SL.Ok.op rfl rfl rfl (SL.Pure.neB rfl rfl rfl Try.underlying23 Try.underlying5 (by kernel_rfl) (by kernel_rfl)) ?_
      refine SL.Ok.nil ?_
      refine SL.Ok.normThen ?_
      refine hK7 _ _ ?_
      refine SL.Ok.condF' rfl (by simp [h3]) ?_
      refine SL.Ok.skip' ?_
      refine SL.Ok.normThen ?_
      refine hK6 _ _ ?_
      refine SL.Ok.seq fun K8 hK8 => ?_
      refine SL.Ok.seq fun K9 hK9 => ?_
      refine SL.Ok.region ?_
      refine SL.Ok.op rfl rfl rfl (SL.Pure.fieldAddr (k := 0) rfl rfl (by kernel_rfl) rfl) ?_
      refine SL.Ok.op rfl rfl rfl (by first | exact SL.Pure.load1 0 rfl rfl rfl rfl (by kernel_rfl) | exact SL.Pure.load1 1 rfl rfl rfl rfl (by kernel_rfl) | exact SL.Pure.load1 2 rfl rfl rfl rfl (by kernel_rfl)) ?_
      refine SL.Ok.op rfl rfl rfl (SL.Pure.eqi rfl rfl rfl) ?_
      refine SL.Ok.nil ?_
      refine SL.Ok.normThen ?_
      refine hK9 _ _ ?_
      refine SL.Ok.condF' rfl (by simp) ?_
      refine SL.Ok.skip' ?_
      refine SL.Ok.normThen ?_
      refine hK8 _ _ ?_
      refine SL.Ok.seq fun K10 hK10 => ?_
      refine SL.Ok.seq fun K11 hK11 => ?_
      refine SL.Ok.region ?_
      refine SL.Ok.op rfl rfl rfl (SL.Pure.fieldAddr (k := 33) rfl rfl (by kernel_rfl) rfl) ?_
      refine SL.Ok.op rfl rfl rfl (by first | exact SL.Pure.load1 0 rfl rfl rfl rfl (by kernel_rfl) | exact SL.Pure.load1 1 rfl rfl rfl rfl (by kernel_rfl) | exact SL.Pure.load1 2 rfl rfl rfl rfl (by kernel_rfl)) ?_
      refine SL.Ok.op rfl rfl rfl (SL.Pure.fieldAddr (k := 33) rfl rfl (by kernel_rfl) rfl) ?_
      refine SL.Ok.op rfl rfl rfl (by first | exact SL.Pure.load1 0 rfl rfl rfl rfl (by kernel_rfl) | exact SL.Pure.load1 1 rfl rfl rfl rfl (by kernel_rfl) | exact SL.Pure.load1 2 rfl rfl rfl rfl (by kernel_rfl)) ?_
      refine SL.Ok.op rfl rfl rfl (SL.Pure.lenS rfl rfl rfl Try.underlying9) ?_
      refine SL.Ok.op rfl rfl rfl (SL.Pure.nei rfl rfl rfl) ?_
      refine SL.Ok.nil ?_
      refine SL.Ok.normThen ?_
      refine hK11 _ _ ?_
      refine SL.Ok.condT' rfl (by simp [h4]) ?_
      refine SL.Ok.seq fun K12 hK12 => ?_
      refine SL.Ok.region ?_
      refine SL.Ok.op rfl rfl rfl (by first | exact SL.Pure.loadA 0 (k := 35) rfl rfl rfl (by kernel_rfl) rfl (by kernel_rfl) | exact SL.Pure.loadA 1 (k := 35) rfl rfl rfl (by kernel_rfl) rfl (by kernel_rfl) | exact SL.Pure.loadA 2 (k := 35) rfl rfl rfl (by kernel_rfl) rfl (by kernel_rfl)) ?_
      refine SL.Ok.eff rfl (by first | exact SL.Eff.storeG (k := 35) 0 _ rfl rfl rfl rfl rfl rfl (by kernel_rfl) rfl rfl | exact SL.Eff.storeG (k := 35) 1 _ rfl rfl rfl rfl rfl rfl (by kernel_rfl) rfl rfl | exact SL.Eff.storeG (k := 35) 2 _ rfl rfl rfl rfl rfl rfl (by kernel_rfl) rfl rfl) ?_
      intro _ _
      try simp only [SL.setN, SL.putD, SL.selM, SL.nth, List.cons_append, List.nil_append]
      refine SL.Ok.op rfl rfl rfl (SL.Pure.assign rfl rfl) ?_
      refine SL.Ok.nil ?_
      refine SL.Ok.normThen ?_
      refine hK12 _ _ ?_
      refine SL.Ok.ret (SL.retThen SL.retHere) (SL.resL rfl (.cons (SL.RV.cellA 0 (k := 35) rfl rfl (by kernel_rfl) rfl (by kernel_rfl)) (.cons (.tmp rfl) .nil)) rfl) (fun w' hM' hK' => ?_)
      exact ⟨rfl, hK'⟩
  · by_cases h4 : (r.t.length : Int) < r.size
    · rw [hear_short h1' h3 h4]
      refine SL.calls_ok (n := 61) (W := SL.none1) (m := []) Try.func12 rfl Try.ntmps12 rfl (SL.Mem.nil _ _ _) ?_
      simp only [SL.enum, Nat.reduceAdd]
      refine SL.Ok.seq fun K1 hK1 => ?_
      refine SL.Ok.region ?_
      refine SL.Ok.eff rfl (SL.Eff.box _ rfl rfl rfl rfl rfl) ?_
      intro b2 _
      try simp only [SL.setN, SL.putD, SL.selM, SL.nth, List.cons_append, List.nil_append]
      refine SL.Ok.eff rfl (SL.Eff.box _ rfl rfl rfl rfl rfl) ?_
      intro b3 _
      try simp only [SL.setN, SL.putD, SL.selM, SL.nth, List.cons_append, List.nil_append]
      refine SL.Ok.eff rfl (SL.Eff.alloc [(B.zero 32).seg, Seg.one (.int .i64 0) rfl, Seg.one (str []) rfl, Seg.one (.bool false) rfl] rfl rfl rfl (by kernel_rfl)) ?_
      intro b4 _
      try simp only [SL.setN, SL.putD, SL.selM, SL.nth, List.cons_append, List.nil_append]
      refine SL.Ok.op rfl rfl rfl (SL.Pure.assign rfl rfl) ?_
      refine SL.Ok.nil ?_
      refine SL.Ok.normThen ?_
      refine hK1 _ _ ?_
      refine SL.Ok.seq fun K2 hK2 => ?_
      refine SL.Ok.seq fun K3 hK3 => ?_
      refine SL.Ok.region ?_
      refine SL.Ok.op rfl rfl rfl (SL.Pure.fieldAddr (k := 34) rfl rfl (by kernel_rfl) rfl) ?_
      refine SL.Ok.op rfl rfl rfl (by first | exact SL.Pure.load1 0 rfl rfl rfl rfl (by kernel_rfl) | exact SL.Pure.load1 1 rfl rfl rfl rfl (by kernel_rfl) | exact SL.Pure.load1 2 rfl rfl rfl rfl (by kernel_rfl)) ?_
      refine SL.Ok.nil ?_
      refine SL.Ok.normThen ?_
      refine hK3 _ _ ?_
      refine SL.Ok.condF' rfl (by simp [h1']) ?_
      refine SL.Ok.skip' ?_
      refine SL.Ok.normThen ?_
      refine hK2 _ _ ?_
      refine SL.Ok.seq fun K4 hK4 => ?_
      refine SL.Ok.seq fun K5 hK5 => ?_
      refine SL.Ok.region ?_
      refine SL.Ok.op rfl rfl rfl (SL.Pure.fieldAddr (k := 0) rfl rfl (by kernel_rfl) rfl) ?_
      refine SL.Ok.op rfl rfl rfl (by first | exact SL.Pure.load1 0 rfl rfl rfl rfl (by kernel_rfl) | exact SL.Pure.load1 1 rfl rfl rfl rfl (by kernel_rfl) | exact SL.Pure.load1 2 rfl rfl rfl rfl (by kernel_rfl)) ?_
      refine SL.Ok.op rfl rfl rfl (SL.Pure.nei rfl rfl rfl) ?_
      refine SL.Ok.op rfl rfl rfl (SL.Pure.move rfl rfl) ?_
      refine SL.Ok.setT (d := 12) rfl (by simp) ?_
      refine SL.Ok.opG rfl rfl rfl rfl rfl rfl rfl (SL.Pure.fieldAddr (k := 0) rfl rfl (by kernel_rfl) rfl) ?_
      refine SL.Ok.opG rfl rfl rfl rfl rfl rfl rfl (by first | exact SL.Pure.load1 0 rfl rfl rfl rfl (by kernel_rfl) | exact SL.Pure.load1 1 rfl rfl rfl rfl (by kernel_rfl) | exact SL.Pure.load1 2 rfl rfl rfl rfl (by kernel_rfl)) ?_
      refine SL.Ok.opG rfl rfl rfl rfl rfl rfl rfl (SL.Pure.nei rfl rfl rfl) ?_
      refine SL.Ok.op rfl rfl rfl (SL.Pure.pickT rfl rfl rfl) ?_
      refine SL.Ok.nil ?_
      refine SL.Ok.normThen ?_
      refine hK5 _ _ ?_
      refine SL.Ok.condF' rfl (by simp) ?_
      refine SL.Ok.skip' ?_
      refine SL.Ok.normThen ?_
      refine hK4 _ _ ?_
      refine SL.Ok.seq fun K6 hK6 => ?_
      refine SL.Ok.seq fun K7 hK7 => ?_
      refine SL.Ok.region ?_
      refine SL.Ok.op rfl rfl rfl (SL.Pure.fieldAddr (k := 1) rfl rfl (by kernel_rfl) rfl) ?_
      refine SL.Ok.op rfl rfl rfl (by first | exact SL.Pure.loadA 0 (k := 32) rfl rfl rfl (by kernel_rfl) rfl (by kernel_rfl) | exact SL.Pure.loadA 1 (k := 32) rfl rfl rfl (by kernel_rfl) rfl (by kernel_rfl) | exact SL.Pure.loadA 2 (k := 32) rfl rfl rfl (by kernel_rfl) rfl (by kernel_rfl)) ?_
      refine SL.Ok.op rfl rfl rfl (SL.Pure.fieldAddr (k := 0) rfl rfl (by kernel_rfl) rfl) ?_
      refine SL.Ok.op rfl rfl rfl (by first | exact SL.Pure.loadA 0 (k := 32) rfl rfl rfl (by kernel_rfl) rfl (by kernel_rfl) | exact SL.Pure.loadA 1 (k := 32) rfl rfl rfl (by kernel_rfl) rfl (by kernel_rfl) | exact SL.Pure.loadA 2 (k := 32) rfl rfl rfl (by kernel_rfl) rfl (by kernel_rfl)) ?_
      refine SL.Ok.op rfl rfl rfl (SL.Pure.neB rfl rfl rfl Try.underlying23 Try.underlying5 (by kernel_rfl) (by kernel_rfl)) ?_
      refine SL.Ok.nil ?_
      refine SL.Ok.normThen ?_
      refine hK7 _ _ ?_
      refine SL.Ok.condF' rfl (by simp [h3]) ?_
      refine SL.Ok.skip' ?_
      refine SL.Ok.normThen ?_
      refine hK6 _ _ ?_
      refine SL.Ok.seq fun K8 hK8 => ?_
      refine SL.Ok.seq fun K9 hK9 => ?_
      refine SL.Ok.region ?_
      refine SL.Ok.op rfl rfl rfl (SL.Pure.fieldAddr (k := 0) rfl rfl (by kernel_rfl) rfl) ?_
      refine SL.Ok.op rfl rfl rfl (by first | exact SL.Pure.load1 0 rfl rfl rfl rfl (by kernel_rfl) | exact SL.Pure.load1 1 rfl rfl rfl rfl (by kernel_rfl) | exact SL.Pure.load1 2 rfl rfl rfl rfl (by kernel_rfl)) ?_
      refine SL.Ok.op rfl rfl rfl (SL.Pure.eqi rfl rfl rfl) ?_
      refine SL.Ok.nil ?_
      refine SL.Ok.normThen ?_
      refine hK9 _ _ ?_
      refine SL.Ok.condT' rfl (by simp) ?_
      refine SL.Ok.seq fun K10 hK10 => ?_
      refine SL.Ok.seq fun K11 hK11 => ?_
      refine SL.Ok.region ?_
      refine SL.Ok.op rfl rfl rfl (SL.Pure.fieldAddr (k := 33) rfl rfl (by kernel_rfl) rfl) ?_
      refine SL.Ok.op rfl rfl rfl (by first | exact SL.Pure.load1 0 rfl rfl rfl rfl (by kernel_rfl) | exact SL.Pure.load1 1 rfl rfl rfl rfl (by kernel_rfl) | exact SL.Pure.load1 2 rfl rfl rfl rfl (by kernel_rfl)) ?_
      refine SL.Ok.op rfl rfl rfl (SL.Pure.lenS rfl rfl rfl Try.underlying9) ?_
      refine SL.Ok.op rfl rfl rfl (SL.Pure.fieldAddr (k := 32) rfl rfl (by kernel_rfl) rfl) ?_
      refine SL.Ok.op rfl rfl rfl (by first | exact SL.Pure.load1 0 rfl rfl rfl rfl (by kernel_rfl) | exact SL.Pure.load1 1 rfl rfl rfl rfl (by kernel_rfl) | exact SL.Pure.load1 2 rfl rfl rfl rfl (by kernel_rfl)) ?_
      refine SL.Ok.op rfl rfl rfl (SL.Pure.lss rfl rfl rfl) ?_
      refine SL.Ok.nil ?_
      refine SL.Ok.normThen ?_
      refine hK11 _ _ ?_
      refine SL.Ok.condT' rfl (by simpa using h4) ?_
      refine SL.Ok.seq fun K12 hK12 => ?_
      refine SL.Ok.region ?_
      refine SL.Ok.op rfl rfl rfl (by first | exact SL.Pure.loadA 0 (k := 35) rfl rfl rfl (by kernel_rfl) rfl (by kernel_rfl) | exact SL.Pure.loadA 1 (k := 35) rfl rfl rfl (by kernel_rfl) rfl (by kernel_rfl) | exact SL.Pure.loadA 2 (k := 35) rfl rfl rfl (by kernel_rfl) rfl (by kernel_rfl)) ?_
      refine SL.Ok.eff rfl (by first | exact SL.Eff.storeG (k := 35) 0 _ rfl rfl rfl rfl rfl rfl (by kernel_rfl) rfl rfl | exact SL.Eff.storeG (k := 35) 1 _ rfl rfl rfl rfl rfl rfl (by kernel_rfl) rfl rfl | exact SL.Eff.storeG (k := 35) 2 _ rfl rfl rfl rfl rfl rfl (by kernel_rfl) rfl rfl) ?_
      intro _ _
      try simp only [SL.setN, SL.putD, SL.selM, SL.nth, List.cons_append, List.nil_append]
      refine SL.Ok.op rfl rfl rfl (SL.Pure.assign rfl rfl) ?_
      refine SL.Ok.nil ?_
      refine SL.Ok.normThen ?_
      refine hK12 _ _ ?_
      refine SL.Ok.ret (SL.retThen (SL.retThen SL.retHere)) (SL.resL rfl (.cons (SL.RV.cellA 0 (k := 35) rfl rfl (by kernel_rfl) rfl (by kernel_rfl)) (.cons (.tmp rfl) .nil)) rfl) (fun w' hM' hK' => ?_)
      exact ⟨rfl, hK'⟩
    · rw [hear_done h1' h3 h4]
      refine SL.calls_ok (n := 61) (W := SL.none1) (m := []) Try.func12 rfl Try.ntmps12 rfl (SL.Mem.nil _ _ _) ?_
      simp only [SL.enum, Nat.reduceAdd]
      refine SL.Ok.seq fun K1 hK1 => ?_
      refine SL.Ok.region ?_
      refine SL.Ok.eff rfl (SL.Eff.box _ rfl rfl rfl rfl rfl) ?_
      intro b2 _
      try simp only [SL.setN, SL.putD, SL.selM, SL.nth, List.cons_append, List.nil_append]
      refine SL.Ok.eff rfl (SL.Eff.box _ rfl rfl rfl rfl rfl) ?_
      intro b3 _
      try simp only [SL.setN, SL.putD, SL.selM, SL.nth, List.cons_append, List.nil_append]
      refine SL.Ok.eff rfl (SL.Eff.alloc [(B.zero 32).seg, Seg.one (.int .i64 0) rfl, Seg.one (str []) rfl, Seg.one (.bool false) rfl] rfl rfl rfl (by kernel_rfl)) ?_
      intro b4 _
      try simp only [SL.setN, SL.putD, SL.selM, SL.nth, List.cons_append, List.nil_append]
      refine SL.Ok.op rfl rfl rfl (SL.Pure.assign rfl rfl) ?_
      refine SL.Ok.nil ?_
      refine SL.Ok.normThen ?_
      refine hK1 _ _ ?_
      refine SL.Ok.seq fun K2 hK2 => ?_
      refine SL.Ok.seq fun K3 hK3 => ?_
      refine SL.Ok.region ?_
      refine SL.Ok.op rfl rfl rfl (SL.Pure.fieldAddr (k := 34) rfl rfl (by kernel_rfl) rfl) ?_
      refine SL.Ok.op rfl rfl rfl (by first | exact SL.Pure.load1 0 rfl rfl rfl rfl (by kernel_rfl) | exact SL.Pure.load1 1 rfl rfl rfl rfl (by kernel_rfl) | exact SL.Pure.load1 2 rfl rfl rfl rfl (by kernel_rfl)) ?_
      refine SL.Ok.nil ?_
      refine SL.Ok.normThen ?_
      refine hK3 _ _ ?_
      refine SL.Ok.condF' rfl (by simp [h1']) ?_
      refine SL.Ok.skip' ?_
      refine SL.Ok.normThen ?_
      refine hK2 _ _ ?_
      refine SL.Ok.seq fun K4 hK4 => ?_
      refine SL.Ok.seq fun K5 hK5 => ?_
      refine SL.Ok.region ?_
      refine SL.Ok.op rfl rfl rfl (SL.Pure.fieldAddr (k := 0) rfl rfl (by kernel_rfl) rfl) ?_
      refine SL.Ok.op rfl rfl rfl (by first | exact SL.Pure.load1 0 rfl rfl rfl rfl (by kernel_rfl) | exact SL.Pure.load1 1 rfl rfl rfl rfl (by kernel_rfl) | exact SL.Pure.load1 2 rfl rfl rfl rfl (by kernel_rfl)) ?_
      refine SL.Ok.op rfl rfl rfl (SL.Pure.nei rfl rfl rfl) ?_
      refine SL.Ok.op rfl rfl rfl (SL.Pure.move rfl rfl) ?_
      refine SL.Ok.setT (d := 12) rfl (by simp) ?_
      refine SL.Ok.opG rfl rfl rfl rfl rfl rfl rfl (SL.Pure.fieldAddr (k := 0) rfl rfl (by kernel_rfl) rfl) ?_
      refine SL.Ok.opG rfl rfl rfl rfl rfl rfl rfl (by first | exact SL.Pure.load1 0 rfl rfl rfl rfl (by kernel_rfl) | exact SL.Pure.load1 1 rfl rfl rfl rfl (by kernel_rfl) | exact SL.Pure.load1 2 rfl rfl rfl rfl (by kernel_rfl)) ?_
      refine SL.Ok.opG rfl rfl rfl rfl rfl rfl rfl (SL.Pure.nei rfl rfl rfl) ?_
      refine SL.Ok.op rfl rfl rfl (SL.Pure.pickT rfl rfl rfl) ?_
      refine SL.Ok.nil ?_
      refine SL.Ok.normThen ?_
      refine hK5 _ _ ?_
      refine SL.Ok.condF' rfl (by simp) ?_
      refine SL.Ok.skip' ?_
      refine SL.Ok.normThen ?_
      refine hK4 _ _ ?_
      refine SL.Ok.seq fun K6 hK6 => ?_
      refine SL.Ok.seq fun K7 hK7 => ?_
      refine SL.Ok.region ?_
      refine SL.Ok.op rfl rfl rfl (SL.Pure.fieldAddr (k := 1) rfl rfl (by kernel_rfl) rfl) ?_
      refine SL.Ok.op rfl rfl rfl (by first | exact SL.Pure.loadA 0 (k := 32) rfl rfl rfl (by kernel_rfl) rfl (by kernel_rfl) | exact SL.Pure.loadA 1 (k := 32) rfl rfl rfl (by kernel_rfl) rfl (by kernel_rfl) | exact SL.Pure.loadA 2 (k := 32) rfl rfl rfl (by kernel_rfl) rfl (by kernel_rfl)) ?_
      refine SL.Ok.op rfl rfl rfl (SL.Pure.fieldAddr (k := 0) rfl rfl (by kernel_rfl) rfl) ?_
      refine SL.Ok.op rfl rfl rfl (by first | exact SL.Pure.loadA 0 (k := 32) rfl rfl rfl (by kernel_rfl) rfl (by kernel_rfl) | exact SL.Pure.loadA 1 (k := 32) rfl rfl rfl (by kernel_rfl) rfl (by kernel_rfl) | exact SL.Pure.loadA 2 (k := 32) rfl rfl rfl (by kernel_rfl) rfl (by kernel_rfl)) ?_
      refine SL.Ok.op rfl rfl rfl (SL.Pure.neB rfl rfl rfl Try.underlying23 Try.underlying5 (by kernel_rfl) (by kernel_rfl)) ?_
      refine SL.Ok.nil ?_
      refine SL.Ok.normThen ?_
      refine hK7 _ _ ?_
      refine SL.Ok.condF' rfl (by simp [h3]) ?_
      refine SL.Ok.skip' ?_
      refine SL.Ok.normThen ?_
      refine hK6 _ _ ?_
      refine SL.Ok.seq fun K8 hK8 => ?_
      refine SL.Ok.seq fun K9 hK9 => ?_
      refine SL.Ok.region ?_
      refine SL.Ok.op rfl rfl rfl (SL.Pure.fieldAddr (k := 0) rfl rfl (by kernel_rfl) rfl) ?_
      refine SL.Ok.op rfl rfl rfl (by first | exact SL.Pure.load1 0 rfl rfl rfl rfl (by kernel_rfl) | exact SL.Pure.load1 1 rfl rfl rfl rfl (by kernel_rfl) | exact SL.Pure.load1 2 rfl rfl rfl rfl (by kernel_rfl)) ?_
      refine SL.Ok.op rfl rfl rfl (SL.Pure.eqi rfl rfl rfl) ?_
      refine SL.Ok.nil ?_
      refine SL.Ok.normThen ?_
      refine hK9 _ _ ?_
      refine SL.Ok.condT' rfl (by simp) ?_
      refine SL.Ok.seq fun K10 hK10 => ?_
      refine SL.Ok.seq fun K11 hK11 => ?_
      refine SL.Ok.region ?_
      refine SL.Ok.op rfl rfl rfl (SL.Pure.fieldAddr (k := 33) rfl rfl (by kernel_rfl) rfl) ?_
      refine SL.Ok.op rfl rfl rfl (by first | exact SL.Pure.load1 0 rfl rfl rfl rfl (by kernel_rfl) | exact SL.Pure.load1 1 rfl rfl rfl rfl (by kernel_rfl) | exact SL.Pure.load1 2 rfl rfl rfl rfl (by kernel_rfl)) ?_
      refine SL.Ok.op rfl rfl rfl (SL.Pure.lenS rfl rfl rfl Try.underlying9) ?_
      refine SL.Ok.op rfl rfl rfl (SL.Pure.fieldAddr (k := 32) rfl rfl (by kernel_rfl) rfl) ?_
      refine SL.Ok.op rfl rfl rfl (by first | exact SL.Pure.load1 0 rfl rfl rfl rfl (by kernel_rfl) | exact SL.Pure.load1 1 rfl rfl rfl rfl (by kernel_rfl) | exact SL.Pure.load1 2 rfl rfl rfl rfl (by kernel_rfl)) ?_
      refine SL.Ok.op rfl rfl rfl (SL.Pure.lss rfl rfl rfl) ?_
      refine SL.Ok.nil ?_
      refine SL.Ok.normThen ?_
      refine hK11 _ _ ?_
      refine SL.Ok.condF' rfl (by simpa using h4) ?_
      refine SL.Ok.skip' ?_
      refine SL.Ok.normThen ?_
      refine hK10 _ _ ?_
      refine SL.Ok.seq fun K12 hK12 => ?_
      refine SL.Ok.region ?_
      refine SL.Ok.op rfl rfl rfl (SL.Pure.fieldAddr (k := 34) rfl rfl (by kernel_rfl) rfl) ?_
      refine SL.Ok.eff rfl (by first | exact SL.Eff.storeG (k := 1) 0 [SL.Seg.one _ rfl] rfl rfl rfl rfl rfl rfl (by kernel_rfl) rfl rfl | exact SL.Eff.storeG (k := 1) 1 [SL.Seg.one _ rfl] rfl rfl rfl rfl rfl rfl (by kernel_rfl) rfl rfl | exact SL.Eff.storeG (k := 1) 2 [SL.Seg.one _ rfl] rfl rfl rfl rfl rfl rfl (by kernel_rfl) rfl rfl) ?_
      intro _ _
      try simp only [SL.setN, SL.putD, SL.selM, SL.nth, List.cons_append, List.nil_append]
      refine SL.Ok.nil ?_
      refine SL.Ok.normThen ?_
      refine hK12 _ _ ?_
      refine SL.Ok.seq fun K13 hK13 => ?_
      refine SL.Ok.region ?_
      refine SL.Ok.op rfl rfl rfl (by first | exact SL.Pure.loadA 0 (k := 35) rfl rfl rfl (by kernel_rfl) rfl (by kernel_rfl) | exact SL.Pure.loadA 1 (k := 35) rfl rfl rfl (by kernel_rfl) rfl (by kernel_rfl) | exact SL.Pure.loadA 2 (k := 35) rfl rfl rfl (by kernel_rfl) rfl (by kernel_rfl)) ?_
      refine SL.Ok.eff rfl (by first | exact SL.Eff.storeG (k := 35) 0 _ rfl rfl rfl rfl rfl rfl (by kernel_rfl) rfl rfl | exact SL.Eff.storeG (k := 35) 1 _ rfl rfl rfl rfl rfl rfl (by kernel_rfl) rfl rfl | exact SL.Eff.storeG (k := 35) 2 _ rfl rfl rfl rfl rfl rfl (by kernel_rfl) rfl rfl) ?_
      intro _ _
      try simp only [SL.setN, SL.putD, SL.selM, SL.nth, List.cons_append, List.nil_append]
      refine SL.Ok.op rfl rfl rfl (SL.Pure.assign rfl rfl) ?_
      refine SL.Ok.nil ?_
      refine SL.Ok.normThen ?_
      refine hK13 _ _ ?_
      refine SL.Ok.ret (SL.retThen SL.retHere) (SL.resL rfl (.cons (SL.RV.cellA 0 (k := 35) rfl rfl (by kernel_rfl) rfl (by kernel_rfl)) (.cons (.tmp rfl) .nil)) rfl) (fun w' hM' hK' => ?_)
      exact ⟨rfl, hK'⟩

end Go.Proofs.Ytdlemfjdabnpcaa
