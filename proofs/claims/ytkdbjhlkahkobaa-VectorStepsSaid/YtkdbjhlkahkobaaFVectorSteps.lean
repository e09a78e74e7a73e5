/- closed facts of the row of VectorSteps, by program -/
import Derived.Test.YtkdbjhlkahkobaaRows
import Derived.Test.YtkdbjhlkahkobaaPe
import Derived.Test.YtkdbjhlkahkobaaPl
import Derived.Test.YtkdbjhlkahkobaaPk
import Derived.ProofKit
namespace Go.Proofs.Ytkdbjhlkahkobaa.pVectorSteps
open Go
theorem fact0 : (Rows.vectorStepsRow.wf (OpenSpec.ofChange Rows.vectorStepsSpec)) = true := by kernel_rfl
theorem fact1 : (laidOutB Try.pinned.checked.prog) = true := by kernel_rfl
theorem fact2 : (mapsRowed Try.pinned.checked.prog) = true := by kernel_rfl
theorem fact3 : (Try.f11.params.all (Try.pinned.checked.prog.readableRec ·)) = true := by kernel_rfl
theorem fact4 : (namedTie Try.pinned.checked.prog Rows.vectorStepsRow.named Rows.vectorStepsSpec.vars) = true := by kernel_rfl
theorem fact5 : ((Rows.vectorStepsRow.stops == [])) = true := by kernel_rfl
theorem fact6 : ((Try.pinned.checked.prog.stops == [])) = true := by kernel_rfl
theorem fact7 : ((Rows.vectorStepsRow.knobs == [])) = true := by kernel_rfl
theorem fact8 : ((Try.pinned.checked.prog.stopKnobs == [])) = true := by kernel_rfl
theorem fact9 : ((Rows.vectorStepsRow.inPlace == Try.pinned.checked.prog.inPlace 11)) = true := by kernel_rfl
theorem fact10 : ((Rows.vectorStepsRow.unfollowed == Try.pinned.checked.prog.unfollowed 11)) = true := by kernel_rfl
theorem fact11 : ((Rows.vectorStepsRow.recurses == Try.pinned.checked.prog.recurses 11)) = true := by kernel_rfl
theorem fact12 : ((Rows.vectorStepsRow.named == Try.pinned.checked.prog.varsNamed 11)) = true := by kernel_rfl
theorem fact13 : ((Rows.vectorStepsRow.maps == (Try.f11.params.toList ++ Rows.vectorStepsSpec.plain.varTypes Try.pinned.checked.prog).any (Try.pinned.checked.prog.mapsRec ·))) = true := by kernel_rfl
theorem fact14 : ((Rows.vectorStepsRow.ifaces == (Try.f11.params.toList ++ Rows.vectorStepsSpec.plain.varTypes Try.pinned.checked.prog).any (Try.pinned.checked.prog.ifacesRec ·))) = true := by kernel_rfl
theorem fact15 : ((Rows.vectorStepsRow.mapsOut == Try.pinned.checked.prog.mapsAmong Try.f11.resultTypes.toList)) = true := by kernel_rfl
theorem fact16 : ((Rows.vectorStepsRow.loops == (Try.f11.params.toList ++ Rows.vectorStepsSpec.plain.varTypes Try.pinned.checked.prog).any (Try.pinned.checked.prog.loopsFrom ·))) = true := by kernel_rfl
theorem fact17 : ((Rows.vectorStepsRow.wideKeys == (Try.f11.params.toList ++ Rows.vectorStepsSpec.plain.varTypes Try.pinned.checked.prog ++ Try.f11.resultTypes.toList).any (Try.pinned.checked.prog.wideKeysFrom ·))) = true := by kernel_rfl
theorem fact18 : (Rows.vectorStepsSpec.vars.all (Try.pinned.checked.prog.varReadable ·)) = true := by kernel_rfl
theorem fact19 : (Try.f11.resultTypes.all (fun t => Try.pinned.checked.prog.readableRec t && decide (t < Try.pinned.checked.prog.types.size))) = true := by kernel_rfl
theorem fact20 : ((Rows.vectorStepsRow.ifacesOut == Try.f11.resultTypes.toList.any (Try.pinned.checked.prog.ifacesRec ·))) = true := by kernel_rfl
theorem fact21 : ((Rows.vectorStepsRow.loopsOut == Try.f11.resultTypes.toList.any (Try.pinned.checked.prog.loopsFrom ·))) = true := by kernel_rfl
theorem fact22 : ((Rows.vectorStepsRow.plainKeys == Try.pinned.checked.prog.plainKeys)) = true := by kernel_rfl
theorem fact23 : (Rows.vectorStepsRow.shortTexts.isNone) = true := by kernel_rfl
theorem fact24 : (Try.pinned.checked.prog.stopsHeard) = true := by kernel_rfl
theorem fact25 : (Try.pinned.checked.prog.mayEnter) = true := mayE
theorem fact26 : ((Rows.vectorStepsRow.lifted == Try.pinned.checked.prog.liftsFinal)) = true := by
  rw [show Rows.vectorStepsRow.lifted = Rows.vectorJoinsRow.lifted from rfl]
  exact liftsF
theorem fact27 : ((Try.pinned.checked.prog.make == some Rows.vectorStepsRow.make)) = true := by
  rw [show Rows.vectorStepsRow.make = Rows.vectorJoinsRow.make from rfl]
  exact makeF
theorem fact28 : ((Rows.vectorStepsRow.kinds == (if Rows.vectorStepsRow.domain.isEmpty then [] else Try.f11.params.toList.map fun t => match Try.pinned.checked.prog.underlying t with | some (.int k) => some k | _ => none))) = true := by kernel_rfl
theorem fact29 : ((Rows.vectorStepsRow.pinned == Rows.vectorStepsRow.pinnedBy)) = true := by kernel_rfl
theorem fact30 : ((Rows.vectorStepsRow.veiled == (Try.f11.params.toList ++ Rows.vectorStepsSpec.plain.varTypes Try.pinned.checked.prog ++ Try.f11.resultTypes.toList).any (Try.pinned.checked.prog.veiledRec ·))) = true := by kernel_rfl
theorem fact31 : (Rows.vectorStepsRow.veiledFits Try.pinned.checked.prog Try.f11.params.toList (Try.f11.params.toList ++ Rows.vectorStepsSpec.plain.varTypes Try.pinned.checked.prog ++ Try.f11.resultTypes.toList)) = true := by kernel_rfl
end Go.Proofs.Ytkdbjhlkahkobaa.pVectorSteps
