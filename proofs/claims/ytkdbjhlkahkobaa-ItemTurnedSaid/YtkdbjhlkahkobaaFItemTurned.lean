/- closed facts of the row of ItemTurned, by program -/
import Derived.Test.YtkdbjhlkahkobaaRows
import Derived.Test.YtkdbjhlkahkobaaPe
import Derived.Test.YtkdbjhlkahkobaaPl
import Derived.Test.YtkdbjhlkahkobaaPk
import Derived.ProofKit
namespace Go.Proofs.Ytkdbjhlkahkobaa.pItemTurned
open Go
theorem fact0 : (Rows.itemTurnedRow.wf (OpenSpec.ofChange Rows.itemTurnedSpec)) = true := by kernel_rfl
theorem fact1 : (laidOutB Try.pinned.checked.prog) = true := by kernel_rfl
theorem fact2 : (mapsRowed Try.pinned.checked.prog) = true := by kernel_rfl
theorem fact3 : (Try.f17.params.all (Try.pinned.checked.prog.readableRec ·)) = true := by kernel_rfl
theorem fact4 : (namedTie Try.pinned.checked.prog Rows.itemTurnedRow.named Rows.itemTurnedSpec.vars) = true := by kernel_rfl
theorem fact5 : ((Rows.itemTurnedRow.stops == [])) = true := by kernel_rfl
theorem fact6 : ((Try.pinned.checked.prog.stops == [])) = true := by kernel_rfl
theorem fact7 : ((Rows.itemTurnedRow.knobs == [])) = true := by kernel_rfl
theorem fact8 : ((Try.pinned.checked.prog.stopKnobs == [])) = true := by kernel_rfl
theorem fact9 : ((Rows.itemTurnedRow.inPlace == Try.pinned.checked.prog.inPlace 17)) = true := by kernel_rfl
theorem fact10 : ((Rows.itemTurnedRow.unfollowed == Try.pinned.checked.prog.unfollowed 17)) = true := by kernel_rfl
theorem fact11 : ((Rows.itemTurnedRow.recurses == Try.pinned.checked.prog.recurses 17)) = true := by kernel_rfl
theorem fact12 : ((Rows.itemTurnedRow.named == Try.pinned.checked.prog.varsNamed 17)) = true := by kernel_rfl
theorem fact13 : ((Rows.itemTurnedRow.maps == (Try.f17.params.toList ++ Rows.itemTurnedSpec.plain.varTypes Try.pinned.checked.prog).any (Try.pinned.checked.prog.mapsRec ·))) = true := by kernel_rfl
theorem fact14 : ((Rows.itemTurnedRow.ifaces == (Try.f17.params.toList ++ Rows.itemTurnedSpec.plain.varTypes Try.pinned.checked.prog).any (Try.pinned.checked.prog.ifacesRec ·))) = true := by kernel_rfl
theorem fact15 : ((Rows.itemTurnedRow.mapsOut == Try.pinned.checked.prog.mapsAmong Try.f17.resultTypes.toList)) = true := by kernel_rfl
theorem fact16 : ((Rows.itemTurnedRow.loops == (Try.f17.params.toList ++ Rows.itemTurnedSpec.plain.varTypes Try.pinned.checked.prog).any (Try.pinned.checked.prog.loopsFrom ·))) = true := by kernel_rfl
theorem fact17 : ((Rows.itemTurnedRow.wideKeys == (Try.f17.params.toList ++ Rows.itemTurnedSpec.plain.varTypes Try.pinned.checked.prog ++ Try.f17.resultTypes.toList).any (Try.pinned.checked.prog.wideKeysFrom ·))) = true := by kernel_rfl
theorem fact18 : (Rows.itemTurnedSpec.vars.all (Try.pinned.checked.prog.varReadable ·)) = true := by kernel_rfl
theorem fact19 : (Try.f17.resultTypes.all (fun t => Try.pinned.checked.prog.readableRec t && decide (t < Try.pinned.checked.prog.types.size))) = true := by kernel_rfl
theorem fact20 : ((Rows.itemTurnedRow.ifacesOut == Try.f17.resultTypes.toList.any (Try.pinned.checked.prog.ifacesRec ·))) = true := by kernel_rfl
theorem fact21 : ((Rows.itemTurnedRow.loopsOut == Try.f17.resultTypes.toList.any (Try.pinned.checked.prog.loopsFrom ·))) = true := by kernel_rfl
theorem fact22 : ((Rows.itemTurnedRow.plainKeys == Try.pinned.checked.prog.plainKeys)) = true := by kernel_rfl
theorem fact23 : (Rows.itemTurnedRow.shortTexts.isNone) = true := by kernel_rfl
theorem fact24 : (Try.pinned.checked.prog.stopsHeard) = true := by kernel_rfl
theorem fact25 : (Try.pinned.checked.prog.mayEnter) = true := mayE
theorem fact26 : ((Rows.itemTurnedRow.lifted == Try.pinned.checked.prog.liftsFinal)) = true := by
  rw [show Rows.itemTurnedRow.lifted = Rows.vectorJoinsRow.lifted from rfl]
  exact liftsF
theorem fact27 : ((Try.pinned.checked.prog.make == some Rows.itemTurnedRow.make)) = true := by
  rw [show Rows.itemTurnedRow.make = Rows.vectorJoinsRow.make from rfl]
  exact makeF
theorem fact28 : ((Rows.itemTurnedRow.kinds == (if Rows.itemTurnedRow.domain.isEmpty then [] else Try.f17.params.toList.map fun t => match Try.pinned.checked.prog.underlying t with | some (.int k) => some k | _ => none))) = true := by kernel_rfl
theorem fact29 : ((Rows.itemTurnedRow.pinned == Rows.itemTurnedRow.pinnedBy)) = true := by kernel_rfl
theorem fact30 : ((Rows.itemTurnedRow.veiled == (Try.f17.params.toList ++ Rows.itemTurnedSpec.plain.varTypes Try.pinned.checked.prog ++ Try.f17.resultTypes.toList).any (Try.pinned.checked.prog.veiledRec ·))) = true := by kernel_rfl
theorem fact31 : (Rows.itemTurnedRow.veiledFits Try.pinned.checked.prog Try.f17.params.toList (Try.f17.params.toList ++ Rows.itemTurnedSpec.plain.varTypes Try.pinned.checked.prog ++ Try.f17.resultTypes.toList)) = true := by kernel_rfl
end Go.Proofs.Ytkdbjhlkahkobaa.pItemTurned
