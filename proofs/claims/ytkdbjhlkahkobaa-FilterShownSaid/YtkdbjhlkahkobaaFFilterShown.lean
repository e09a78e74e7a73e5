/- closed facts of the row of FilterShown, by program -/
import Derived.Test.YtkdbjhlkahkobaaRows
import Derived.Test.YtkdbjhlkahkobaaPe
import Derived.Test.YtkdbjhlkahkobaaPl
import Derived.Test.YtkdbjhlkahkobaaPk
import Derived.ProofKit
namespace Go.Proofs.Ytkdbjhlkahkobaa.pFilterShown
open Go
theorem fact0 : (Rows.filterShownRow.wf (OpenSpec.ofChange Rows.filterShownSpec)) = true := by kernel_rfl
theorem fact1 : (laidOutB Try.pinned.checked.prog) = true := by kernel_rfl
theorem fact2 : (mapsRowed Try.pinned.checked.prog) = true := by kernel_rfl
theorem fact3 : (Try.f19.params.all (Try.pinned.checked.prog.readableRec ·)) = true := by kernel_rfl
theorem fact4 : (namedTie Try.pinned.checked.prog Rows.filterShownRow.named Rows.filterShownSpec.vars) = true := by kernel_rfl
theorem fact5 : ((Rows.filterShownRow.stops == [])) = true := by kernel_rfl
theorem fact6 : ((Try.pinned.checked.prog.stops == [])) = true := by kernel_rfl
theorem fact7 : ((Rows.filterShownRow.knobs == [])) = true := by kernel_rfl
theorem fact8 : ((Try.pinned.checked.prog.stopKnobs == [])) = true := by kernel_rfl
theorem fact9 : ((Rows.filterShownRow.inPlace == Try.pinned.checked.prog.inPlace 19)) = true := by kernel_rfl
theorem fact10 : ((Rows.filterShownRow.unfollowed == Try.pinned.checked.prog.unfollowed 19)) = true := by kernel_rfl
theorem fact11 : ((Rows.filterShownRow.recurses == Try.pinned.checked.prog.recurses 19)) = true := by kernel_rfl
theorem fact12 : ((Rows.filterShownRow.named == Try.pinned.checked.prog.varsNamed 19)) = true := by kernel_rfl
theorem fact13 : ((Rows.filterShownRow.maps == (Try.f19.params.toList ++ Rows.filterShownSpec.plain.varTypes Try.pinned.checked.prog).any (Try.pinned.checked.prog.mapsRec ·))) = true := by kernel_rfl
theorem fact14 : ((Rows.filterShownRow.ifaces == (Try.f19.params.toList ++ Rows.filterShownSpec.plain.varTypes Try.pinned.checked.prog).any (Try.pinned.checked.prog.ifacesRec ·))) = true := by kernel_rfl
theorem fact15 : ((Rows.filterShownRow.mapsOut == Try.pinned.checked.prog.mapsAmong Try.f19.resultTypes.toList)) = true := by kernel_rfl
theorem fact16 : ((Rows.filterShownRow.loops == (Try.f19.params.toList ++ Rows.filterShownSpec.plain.varTypes Try.pinned.checked.prog).any (Try.pinned.checked.prog.loopsFrom ·))) = true := by kernel_rfl
theorem fact17 : ((Rows.filterShownRow.wideKeys == (Try.f19.params.toList ++ Rows.filterShownSpec.plain.varTypes Try.pinned.checked.prog ++ Try.f19.resultTypes.toList).any (Try.pinned.checked.prog.wideKeysFrom ·))) = true := by kernel_rfl
theorem fact18 : (Rows.filterShownSpec.vars.all (Try.pinned.checked.prog.varReadable ·)) = true := by kernel_rfl
theorem fact19 : (Try.f19.resultTypes.all (fun t => Try.pinned.checked.prog.readableRec t && decide (t < Try.pinned.checked.prog.types.size))) = true := by kernel_rfl
theorem fact20 : ((Rows.filterShownRow.ifacesOut == Try.f19.resultTypes.toList.any (Try.pinned.checked.prog.ifacesRec ·))) = true := by kernel_rfl
theorem fact21 : ((Rows.filterShownRow.loopsOut == Try.f19.resultTypes.toList.any (Try.pinned.checked.prog.loopsFrom ·))) = true := by kernel_rfl
theorem fact22 : ((Rows.filterShownRow.plainKeys == Try.pinned.checked.prog.plainKeys)) = true := by kernel_rfl
theorem fact23 : (Rows.filterShownRow.shortTexts.isNone) = true := by kernel_rfl
theorem fact24 : (Try.pinned.checked.prog.stopsHeard) = true := by kernel_rfl
theorem fact25 : (Try.pinned.checked.prog.mayEnter) = true := mayE
theorem fact26 : ((Rows.filterShownRow.lifted == Try.pinned.checked.prog.liftsFinal)) = true := by
  rw [show Rows.filterShownRow.lifted = Rows.vectorJoinsRow.lifted from rfl]
  exact liftsF
theorem fact27 : ((Try.pinned.checked.prog.make == some Rows.filterShownRow.make)) = true := by
  rw [show Rows.filterShownRow.make = Rows.vectorJoinsRow.make from rfl]
  exact makeF
theorem fact28 : ((Rows.filterShownRow.kinds == (if Rows.filterShownRow.domain.isEmpty then [] else Try.f19.params.toList.map fun t => match Try.pinned.checked.prog.underlying t with | some (.int k) => some k | _ => none))) = true := by kernel_rfl
theorem fact29 : ((Rows.filterShownRow.pinned == Rows.filterShownRow.pinnedBy)) = true := by kernel_rfl
theorem fact30 : ((Rows.filterShownRow.veiled == (Try.f19.params.toList ++ Rows.filterShownSpec.plain.varTypes Try.pinned.checked.prog ++ Try.f19.resultTypes.toList).any (Try.pinned.checked.prog.veiledRec ·))) = true := by kernel_rfl
theorem fact31 : (Rows.filterShownRow.veiledFits Try.pinned.checked.prog Try.f19.params.toList (Try.f19.params.toList ++ Rows.filterShownSpec.plain.varTypes Try.pinned.checked.prog ++ Try.f19.resultTypes.toList)) = true := by kernel_rfl
end Go.Proofs.Ytkdbjhlkahkobaa.pFilterShown
