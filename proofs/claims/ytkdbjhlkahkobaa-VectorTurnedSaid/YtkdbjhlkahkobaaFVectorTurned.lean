/- closed facts of the row of VectorTurned, by program -/
import Derived.Test.YtkdbjhlkahkobaaRows
import Derived.Test.YtkdbjhlkahkobaaPe
import Derived.Test.YtkdbjhlkahkobaaPl
import Derived.Test.YtkdbjhlkahkobaaPk
import Derived.ProofKit
namespace Go.Proofs.Ytkdbjhlkahkobaa.pVectorTurned
open Go
theorem fact0 : (Rows.vectorTurnedRow.wf (OpenSpec.ofChange Rows.vectorTurnedSpec)) = true := by kernel_rfl
theorem fact1 : (laidOutB Try.pinned.checked.prog) = true := by kernel_rfl
theorem fact2 : (mapsRowed Try.pinned.checked.prog) = true := by kernel_rfl
theorem fact3 : (Try.f13.params.all (Try.pinned.checked.prog.readableRec ·)) = true := by kernel_rfl
theorem fact4 : (namedTie Try.pinned.checked.prog Rows.vectorTurnedRow.named Rows.vectorTurnedSpec.vars) = true := by kernel_rfl
theorem fact5 : ((Rows.vectorTurnedRow.stops == [])) = true := by kernel_rfl
theorem fact6 : ((Try.pinned.checked.prog.stops == [])) = true := by kernel_rfl
theorem fact7 : ((Rows.vectorTurnedRow.knobs == [])) = true := by kernel_rfl
theorem fact8 : ((Try.pinned.checked.prog.stopKnobs == [])) = true := by kernel_rfl
theorem fact9 : ((Rows.vectorTurnedRow.inPlace == Try.pinned.checked.prog.inPlace 13)) = true := by kernel_rfl
theorem fact10 : ((Rows.vectorTurnedRow.unfollowed == Try.pinned.checked.prog.unfollowed 13)) = true := by kernel_rfl
theorem fact11 : ((Rows.vectorTurnedRow.recurses == Try.pinned.checked.prog.recurses 13)) = true := by kernel_rfl
theorem fact12 : ((Rows.vectorTurnedRow.named == Try.pinned.checked.prog.varsNamed 13)) = true := by kernel_rfl
theorem fact13 : ((Rows.vectorTurnedRow.maps == (Try.f13.params.toList ++ Rows.vectorTurnedSpec.plain.varTypes Try.pinned.checked.prog).any (Try.pinned.checked.prog.mapsRec ·))) = true := by kernel_rfl
theorem fact14 : ((Rows.vectorTurnedRow.ifaces == (Try.f13.params.toList ++ Rows.vectorTurnedSpec.plain.varTypes Try.pinned.checked.prog).any (Try.pinned.checked.prog.ifacesRec ·))) = true := by kernel_rfl
theorem fact15 : ((Rows.vectorTurnedRow.mapsOut == Try.pinned.checked.prog.mapsAmong Try.f13.resultTypes.toList)) = true := by kernel_rfl
theorem fact16 : ((Rows.vectorTurnedRow.loops == (Try.f13.params.toList ++ Rows.vectorTurnedSpec.plain.varTypes Try.pinned.checked.prog).any (Try.pinned.checked.prog.loopsFrom ·))) = true := by kernel_rfl
theorem fact17 : ((Rows.vectorTurnedRow.wideKeys == (Try.f13.params.toList ++ Rows.vectorTurnedSpec.plain.varTypes Try.pinned.checked.prog ++ Try.f13.resultTypes.toList).any (Try.pinned.checked.prog.wideKeysFrom ·))) = true := by kernel_rfl
theorem fact18 : (Rows.vectorTurnedSpec.vars.all (Try.pinned.checked.prog.varReadable ·)) = true := by kernel_rfl
theorem fact19 : (Try.f13.resultTypes.all (fun t => Try.pinned.checked.prog.readableRec t && decide (t < Try.pinned.checked.prog.types.size))) = true := by kernel_rfl
theorem fact20 : ((Rows.vectorTurnedRow.ifacesOut == Try.f13.resultTypes.toList.any (Try.pinned.checked.prog.ifacesRec ·))) = true := by kernel_rfl
theorem fact21 : ((Rows.vectorTurnedRow.loopsOut == Try.f13.resultTypes.toList.any (Try.pinned.checked.prog.loopsFrom ·))) = true := by kernel_rfl
theorem fact22 : ((Rows.vectorTurnedRow.plainKeys == Try.pinned.checked.prog.plainKeys)) = true := by kernel_rfl
theorem fact23 : (Rows.vectorTurnedRow.shortTexts.isNone) = true := by kernel_rfl
theorem fact24 : (Try.pinned.checked.prog.stopsHeard) = true := by kernel_rfl
theorem fact25 : (Try.pinned.checked.prog.mayEnter) = true := mayE
theorem fact26 : ((Rows.vectorTurnedRow.lifted == Try.pinned.checked.prog.liftsFinal)) = true := by
  rw [show Rows.vectorTurnedRow.lifted = Rows.vectorJoinsRow.lifted from rfl]
  exact liftsF
theorem fact27 : ((Try.pinned.checked.prog.make == some Rows.vectorTurnedRow.make)) = true := by
  rw [show Rows.vectorTurnedRow.make = Rows.vectorJoinsRow.make from rfl]
  exact makeF
theorem fact28 : ((Rows.vectorTurnedRow.kinds == (if Rows.vectorTurnedRow.domain.isEmpty then [] else Try.f13.params.toList.map fun t => match Try.pinned.checked.prog.underlying t with | some (.int k) => some k | _ => none))) = true := by kernel_rfl
theorem fact29 : ((Rows.vectorTurnedRow.pinned == Rows.vectorTurnedRow.pinnedBy)) = true := by kernel_rfl
theorem fact30 : ((Rows.vectorTurnedRow.veiled == (Try.f13.params.toList ++ Rows.vectorTurnedSpec.plain.varTypes Try.pinned.checked.prog ++ Try.f13.resultTypes.toList).any (Try.pinned.checked.prog.veiledRec ·))) = true := by kernel_rfl
theorem fact31 : (Rows.vectorTurnedRow.veiledFits Try.pinned.checked.prog Try.f13.params.toList (Try.f13.params.toList ++ Rows.vectorTurnedSpec.plain.varTypes Try.pinned.checked.prog ++ Try.f13.resultTypes.toList)) = true := by kernel_rfl
end Go.Proofs.Ytkdbjhlkahkobaa.pVectorTurned
