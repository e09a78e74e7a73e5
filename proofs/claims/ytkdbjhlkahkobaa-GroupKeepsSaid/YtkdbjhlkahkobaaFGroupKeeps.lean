/- closed facts of the row of GroupKeeps, by program -/
import Derived.Test.YtkdbjhlkahkobaaRows
import Derived.Test.YtkdbjhlkahkobaaPe
import Derived.Test.YtkdbjhlkahkobaaPl
import Derived.Test.YtkdbjhlkahkobaaPk
import Derived.ProofKit
namespace Go.Proofs.Ytkdbjhlkahkobaa.pGroupKeeps
open Go
theorem fact0 : (Rows.groupKeepsRow.wf (OpenSpec.ofChange Rows.groupKeepsSpec)) = true := by kernel_rfl
theorem fact1 : (laidOutB Try.pinned.checked.prog) = true := by kernel_rfl
theorem fact2 : (mapsRowed Try.pinned.checked.prog) = true := by kernel_rfl
theorem fact3 : (Try.f6.params.all (Try.pinned.checked.prog.readableRec ·)) = true := by kernel_rfl
theorem fact4 : (namedTie Try.pinned.checked.prog Rows.groupKeepsRow.named Rows.groupKeepsSpec.vars) = true := by kernel_rfl
theorem fact5 : ((Rows.groupKeepsRow.stops == [])) = true := by kernel_rfl
theorem fact6 : ((Try.pinned.checked.prog.stops == [])) = true := by kernel_rfl
theorem fact7 : ((Rows.groupKeepsRow.knobs == [])) = true := by kernel_rfl
theorem fact8 : ((Try.pinned.checked.prog.stopKnobs == [])) = true := by kernel_rfl
theorem fact9 : ((Rows.groupKeepsRow.inPlace == Try.pinned.checked.prog.inPlace 6)) = true := by kernel_rfl
theorem fact10 : ((Rows.groupKeepsRow.unfollowed == Try.pinned.checked.prog.unfollowed 6)) = true := by kernel_rfl
theorem fact11 : ((Rows.groupKeepsRow.recurses == Try.pinned.checked.prog.recurses 6)) = true := by kernel_rfl
theorem fact12 : ((Rows.groupKeepsRow.named == Try.pinned.checked.prog.varsNamed 6)) = true := by kernel_rfl
theorem fact13 : ((Rows.groupKeepsRow.maps == (Try.f6.params.toList ++ Rows.groupKeepsSpec.plain.varTypes Try.pinned.checked.prog).any (Try.pinned.checked.prog.mapsRec ·))) = true := by kernel_rfl
theorem fact14 : ((Rows.groupKeepsRow.ifaces == (Try.f6.params.toList ++ Rows.groupKeepsSpec.plain.varTypes Try.pinned.checked.prog).any (Try.pinned.checked.prog.ifacesRec ·))) = true := by kernel_rfl
theorem fact15 : ((Rows.groupKeepsRow.mapsOut == Try.pinned.checked.prog.mapsAmong Try.f6.resultTypes.toList)) = true := by kernel_rfl
theorem fact16 : ((Rows.groupKeepsRow.loops == (Try.f6.params.toList ++ Rows.groupKeepsSpec.plain.varTypes Try.pinned.checked.prog).any (Try.pinned.checked.prog.loopsFrom ·))) = true := by kernel_rfl
theorem fact17 : ((Rows.groupKeepsRow.wideKeys == (Try.f6.params.toList ++ Rows.groupKeepsSpec.plain.varTypes Try.pinned.checked.prog ++ Try.f6.resultTypes.toList).any (Try.pinned.checked.prog.wideKeysFrom ·))) = true := by kernel_rfl
theorem fact18 : (Rows.groupKeepsSpec.vars.all (Try.pinned.checked.prog.varReadable ·)) = true := by kernel_rfl
theorem fact19 : (Try.f6.resultTypes.all (fun t => Try.pinned.checked.prog.readableRec t && decide (t < Try.pinned.checked.prog.types.size))) = true := by kernel_rfl
theorem fact20 : ((Rows.groupKeepsRow.ifacesOut == Try.f6.resultTypes.toList.any (Try.pinned.checked.prog.ifacesRec ·))) = true := by kernel_rfl
theorem fact21 : ((Rows.groupKeepsRow.loopsOut == Try.f6.resultTypes.toList.any (Try.pinned.checked.prog.loopsFrom ·))) = true := by kernel_rfl
theorem fact22 : ((Rows.groupKeepsRow.plainKeys == Try.pinned.checked.prog.plainKeys)) = true := by kernel_rfl
theorem fact23 : (Rows.groupKeepsRow.shortTexts.isNone) = true := by kernel_rfl
theorem fact24 : (Try.pinned.checked.prog.stopsHeard) = true := by kernel_rfl
theorem fact25 : (Try.pinned.checked.prog.mayEnter) = true := mayE
theorem fact26 : ((Rows.groupKeepsRow.lifted == Try.pinned.checked.prog.liftsFinal)) = true := by
  rw [show Rows.groupKeepsRow.lifted = Rows.vectorJoinsRow.lifted from rfl]
  exact liftsF
theorem fact27 : ((Try.pinned.checked.prog.make == some Rows.groupKeepsRow.make)) = true := by
  rw [show Rows.groupKeepsRow.make = Rows.vectorJoinsRow.make from rfl]
  exact makeF
theorem fact28 : ((Rows.groupKeepsRow.kinds == (if Rows.groupKeepsRow.domain.isEmpty then [] else Try.f6.params.toList.map fun t => match Try.pinned.checked.prog.underlying t with | some (.int k) => some k | _ => none))) = true := by kernel_rfl
theorem fact29 : ((Rows.groupKeepsRow.pinned == Rows.groupKeepsRow.pinnedBy)) = true := by kernel_rfl
theorem fact30 : ((Rows.groupKeepsRow.veiled == (Try.f6.params.toList ++ Rows.groupKeepsSpec.plain.varTypes Try.pinned.checked.prog ++ Try.f6.resultTypes.toList).any (Try.pinned.checked.prog.veiledRec ·))) = true := by kernel_rfl
theorem fact31 : (Rows.groupKeepsRow.veiledFits Try.pinned.checked.prog Try.f6.params.toList (Try.f6.params.toList ++ Rows.groupKeepsSpec.plain.varTypes Try.pinned.checked.prog ++ Try.f6.resultTypes.toList)) = true := by kernel_rfl
end Go.Proofs.Ytkdbjhlkahkobaa.pGroupKeeps
