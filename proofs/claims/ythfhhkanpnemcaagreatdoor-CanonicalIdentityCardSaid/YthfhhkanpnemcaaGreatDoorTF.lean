/- The closed facts of the row of CanonicalIdentity, one by one. -/
import Derived.Test.YthfhhkanpnemcaaGreatDoorMF
import Derived.Test.YthfhhkanpnemcaaGreatDoorRows
import Derived.ProofKit
import Derived.Stop.Joined
import Derived.JoinedOf
namespace Go.Proofs.YthfhhkanpnemcaaGreatDoor.idDone
open Go.ChangeShapes Go.WideShapes Go.ChangeAt Go.RowKit
set_option maxRecDepth 100000
theorem and_t {a b : Bool} (h : a = true) (k : b = true) : (a && b) = true := by rw [h, k]; rfl
theorem fact0 : Rows.canonicalIdentityRow.wf (OpenSpec.ofChange Rows.canonicalIdentitySpec) = true := by kernel_rfl
theorem fact1 : laidOutB Tryz.prog = true := by kernel_rfl
theorem fact2 : mapsRowed Tryz.prog = true := by kernel_rfl
theorem fact3 : Tryz.f3.params.all (Tryz.prog.readableRec ·) = true := by kernel_rfl
theorem fact4 : namedTie Tryz.prog Rows.canonicalIdentityRow.named Rows.canonicalIdentitySpec.vars = true := by kernel_rfl
theorem fact5 : (Rows.canonicalIdentityRow.stops == []) = true := by kernel_rfl
theorem fact6 : (Tryz.prog.stops == []) = true := by kernel_rfl
theorem fact7 : (Rows.canonicalIdentityRow.knobs == []) = true := by kernel_rfl
theorem fact8 : (Tryz.prog.stopKnobs == []) = true := by kernel_rfl
theorem fact9 : (Rows.canonicalIdentityRow.inPlace == Tryz.prog.inPlace 3) = true := by kernel_rfl
theorem fact10 : (Rows.canonicalIdentityRow.unfollowed == Tryz.prog.unfollowed 3) = true := by kernel_rfl
theorem fact11 : (Rows.canonicalIdentityRow.recurses == Tryz.prog.recurses 3) = true := by kernel_rfl
theorem fact12 : (Rows.canonicalIdentityRow.named == Tryz.prog.varsNamed 3) = true := by kernel_rfl
theorem fact13 : (Rows.canonicalIdentityRow.maps == (Tryz.f3.params.toList ++ Rows.canonicalIdentitySpec.plain.varTypes Tryz.prog).any (Tryz.prog.mapsRec ·)) = true := by kernel_rfl
theorem fact14 : (Rows.canonicalIdentityRow.ifaces == (Tryz.f3.params.toList ++ Rows.canonicalIdentitySpec.plain.varTypes Tryz.prog).any (Tryz.prog.ifacesRec ·)) = true := by kernel_rfl
theorem fact15 : (Rows.canonicalIdentityRow.mapsOut == Tryz.prog.mapsAmong Tryz.f3.resultTypes.toList) = true := by kernel_rfl
theorem fact16 : (Rows.canonicalIdentityRow.loops == (Tryz.f3.params.toList ++ Rows.canonicalIdentitySpec.plain.varTypes Tryz.prog).any (Tryz.prog.loopsFrom ·)) = true := by kernel_rfl
theorem fact17 : (Rows.canonicalIdentityRow.wideKeys == (Tryz.f3.params.toList ++ Rows.canonicalIdentitySpec.plain.varTypes Tryz.prog ++ Tryz.f3.resultTypes.toList).any (Tryz.prog.wideKeysFrom ·)) = true := by kernel_rfl
theorem fact18 : Rows.canonicalIdentitySpec.vars.all (Tryz.prog.varReadable ·) = true := by kernel_rfl
theorem fact19 : Tryz.f3.resultTypes.all (fun t => Tryz.prog.readableRec t && decide (t < Tryz.prog.types.size)) = true := by kernel_rfl
theorem fact20 : (Rows.canonicalIdentityRow.ifacesOut == Tryz.f3.resultTypes.toList.any (Tryz.prog.ifacesRec ·)) = true := by kernel_rfl
theorem fact21 : (Rows.canonicalIdentityRow.loopsOut == Tryz.f3.resultTypes.toList.any (Tryz.prog.loopsFrom ·)) = true := by kernel_rfl
theorem fact22 : (Rows.canonicalIdentityRow.plainKeys == Tryz.prog.plainKeys) = true := by kernel_rfl
theorem fact23 : Rows.canonicalIdentityRow.shortTexts.isNone = true := by kernel_rfl
theorem fact24 : Tryz.prog.stopsHeard = true := by kernel_rfl
theorem fact25 : Tryz.prog.mayEnter = true := by kernel_rfl
theorem fact26 : (Rows.canonicalIdentityRow.lifted == Tryz.prog.liftsFinal) = true := by kernel_rfl
theorem fact27 : (Tryz.prog.make == some Rows.canonicalIdentityRow.make) = true := by kernel_rfl
theorem fact28 : (Rows.canonicalIdentityRow.kinds == (if Rows.canonicalIdentityRow.domain.isEmpty then [] else Tryz.f3.params.toList.map fun t => match Tryz.prog.underlying t with | some (.int k) => some k | _ => none)) = true := by kernel_rfl
theorem fact29 : (Rows.canonicalIdentityRow.pinned == Rows.canonicalIdentityRow.pinnedBy) = true := by kernel_rfl
theorem fact30 : (Rows.canonicalIdentityRow.veiled == (Tryz.f3.params.toList ++ Rows.canonicalIdentitySpec.plain.varTypes Tryz.prog ++ Tryz.f3.resultTypes.toList).any (Tryz.prog.veiledRec ·)) = true := by kernel_rfl
theorem fact31 : Rows.canonicalIdentityRow.veiledFits Tryz.prog Tryz.f3.params.toList (Tryz.f3.params.toList ++ Rows.canonicalIdentitySpec.plain.varTypes Tryz.prog ++ Tryz.f3.resultTypes.toList) = true := by kernel_rfl
theorem facts : joinedFacts Tryz.prog 3 Tryz.f3 Rows.canonicalIdentitySpec Rows.canonicalIdentityRow = true := by
  unfold joinedFacts
  exact (and_t (and_t (and_t (and_t (and_t (and_t (and_t (and_t (and_t (and_t (and_t (and_t (and_t (and_t (and_t (and_t (and_t (and_t (and_t (and_t (and_t (and_t (and_t (and_t (and_t (and_t (and_t (and_t (and_t (and_t (and_t fact0 fact1) fact2) fact3) fact4) fact5) fact6) fact7) fact8) fact9) fact10) fact11) fact12) fact13) fact14) fact15) fact16) fact17) fact18) fact19) fact20) fact21) fact22) fact23) fact24) fact25) fact26) fact27) fact28) fact29) fact30) fact31)
end Go.Proofs.YthfhhkanpnemcaaGreatDoor.idDone
