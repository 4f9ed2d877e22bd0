/- Contracts of package transfer: Hear, Clone, Equal; the reference's Hear. -/
import Derived.Test.YtehjohfpegbhmaaGreatDoorTr1
namespace Go.Proofs.YtehjohfpegbhmaaGreatDoor
open Go.SL Go.RowKit
set_option linter.unusedVariables false
set_option maxRecDepth 100000
set_option linter.unusedSimpArgs false

/-- what a command does to a receiver -/
def hear (r : RS) (v : Int) (i : B 32) (f : Int) (x : List UInt8) : RS × Int :=
  if r.fin then (r, 10)
  else if v ≠ 7 ∧ v ≠ 8 then (r, 11)
  else if i ≠ r.id then (r, 8)
  else if v = 8 then (if (r.t.length : Int) < r.size then (r, 4) else ({ r with fin := true }, 0))
  else if f ≠ r.t.length then (r, 30)
  else if r.size < r.t.length + x.length then (r, 5)
  else ({ r with t := r.t ++ x }, 0)

abbrev rseg (r : RS) : List Seg := [r.id.seg, Seg.one (.int .i64 r.size) rfl, Seg.one (str r.t) rfl, Seg.one (.bool r.fin) rfl]

theorem hear_fin {r : RS} {v : Int} {i : B 32} {f : Int} {x : List UInt8} (h : r.fin = true) : hear r v i f x = (r, 10) := by simp [hear, h]
theorem hear_kind {r : RS} {v : Int} {i : B 32} {f : Int} {x : List UInt8} (h : r.fin = false) (h1 : v ≠ 7) (h2 : v ≠ 8) : hear r v i f x = (r, 11) := by simp [hear, h, h1, h2]
theorem hear_id {r : RS} {v : Int} {i : B 32} {f : Int} {x : List UInt8} (h : r.fin = false) (h1 : v = 7 ∨ v = 8) (h2 : i ≠ r.id) : hear r v i f x = (r, 8) := by
  unfold hear; rw [if_neg (by simp [h]), if_neg (by omega), if_pos h2]
theorem hear_short {r : RS} {i : B 32} {f : Int} {x : List UInt8} (h : r.fin = false) (h2 : i = r.id) (h3 : (r.t.length : Int) < r.size) : hear r 8 i f x = (r, 4) := by
  unfold hear; rw [if_neg (by simp [h]), if_neg (by omega), if_neg (by simp [h2]), if_pos rfl, if_pos h3]
theorem hear_done {r : RS} {i : B 32} {f : Int} {x : List UInt8} (h : r.fin = false) (h2 : i = r.id) (h3 : ¬ (r.t.length : Int) < r.size) : hear r 8 i f x = ({ r with fin := true }, 0) := by
  unfold hear; rw [if_neg (by simp [h]), if_neg (by omega), if_neg (by simp [h2]), if_pos rfl, if_neg h3]
theorem hear_seq {r : RS} {i : B 32} {f : Int} {x : List UInt8} (h : r.fin = false) (h2 : i = r.id) (h3 : f ≠ r.t.length) : hear r 7 i f x = (r, 30) := by
  unfold hear; rw [if_neg (by simp [h]), if_neg (by omega), if_neg (by simp [h2]), if_neg (by omega), if_pos h3]
theorem hear_long {r : RS} {i : B 32} {f : Int} {x : List UInt8} (h : r.fin = false) (h2 : i = r.id) (h3 : f = r.t.length) (h4 : r.size < r.t.length + x.length) : hear r 7 i f x = (r, 5) := by
  unfold hear; rw [if_neg (by simp [h]), if_neg (by omega), if_neg (by simp [h2]), if_neg (by omega), if_neg (by simp [h3]), if_pos h4]
theorem hear_data {r : RS} {i : B 32} {f : Int} {x : List UInt8} (h : r.fin = false) (h2 : i = r.id) (h3 : f = r.t.length) (h4 : ¬ r.size < r.t.length + x.length) : hear r 7 i f x = ({ r with t := r.t ++ x }, 0) := by
  unfold hear; rw [if_neg (by simp [h]), if_neg (by omega), if_neg (by simp [h2]), if_neg (by omega), if_neg (by simp [h3]), if_neg h4]

theorem hear_inv {r : RS} (h : rinv r) (v : Int) (i : B 32) (f : Int) (x : List UInt8) : rinv (hear r v i f x).1 ∧ (hear r v i f x).1.id = r.id ∧ (hear r v i f x).1.size = r.size := by
  obtain ⟨h0, h1, h2⟩ := h
  unfold hear
  (repeat' split) <;> (refine ⟨⟨h0, h1, ?_⟩, rfl, rfl⟩; first | exact h2 | (simp only [List.length_append]; omega))

end Go.Proofs.YtehjohfpegbhmaaGreatDoor
