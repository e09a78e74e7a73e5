/- closed facts of the row of ItemLater, by program -/
import Derived.Test.YtkdbjhlkahkobaaRows
import Derived.Test.YtkdbjhlkahkobaaPe
import Derived.Test.YtkdbjhlkahkobaaPl
import Derived.Test.YtkdbjhlkahkobaaPk
import Derived.ProofKit
namespace Go.Proofs.Ytkdbjhlkahkobaa.pItemLater
open Go
theorem fact0 : (Rows.itemLaterRow.wf (OpenSpec.ofChange Rows.itemLaterSpec)) = true := by kernel_rfl
theorem fact1 : (laidOutB Try.pinned.checked.prog) = true := by kernel_rfl
theorem fact2 : (mapsRowed Try.pinned.checked.prog) = true := by kernel_rfl
theorem fact3 : (Try.f5.params.all (Try.pinned.checked.prog.readableRec ·)) = true := by kernel_rfl
theorem fact4 : (namedTie Try.pinned.checked.prog Rows.itemLaterRow.named Rows.itemLaterSpec.vars) = true := by kernel_rfl
theorem fact5 : ((Rows.itemLaterRow.stops == [])) = true := by kernel_rfl
theorem fact6 : ((Try.pinned.checked.prog.stops == [])) = true := by kernel_rfl
theorem fact7 : ((Rows.itemLaterRow.knobs == [])) = true := by kernel_rfl
theorem fact8 : ((Try.pinned.checked.prog.stopKnobs == [])) = true := by kernel_rfl
theorem fact9 : ((Rows.itemLaterRow.inPlace == Try.pinned.checked.prog.inPlace 5)) = true := by kernel_rfl
theorem fact10 : ((Rows.itemLaterRow.unfollowed == Try.pinned.checked.prog.unfollowed 5)) = true := by kernel_rfl
theorem fact11 : ((Rows.itemLaterRow.recurses == Try.pinned.checked.prog.recurses 5)) = true := by kernel_rfl
theorem fact12 : ((Rows.itemLaterRow.named == Try.pinned.checked.prog.varsNamed 5)) = true := by kernel_rfl
theorem fact13 : ((Rows.itemLaterRow.maps == (Try.f5.params.toList ++ Rows.itemLaterSpec.plain.varTypes Try.pinned.checked.prog).any (Try.pinned.checked.prog.mapsRec ·))) = true := by kernel_rfl
theorem fact14 : ((Rows.itemLaterRow.ifaces == (Try.f5.params.toList ++ Rows.itemLaterSpec.plain.varTypes Try.pinned.checked.prog).any (Try.pinned.checked.prog.ifacesRec ·))) = true := by kernel_rfl
theorem fact15 : ((Rows.itemLaterRow.mapsOut == Try.pinned.checked.prog.mapsAmong Try.f5.resultTypes.toList)) = true := by kernel_rfl
theorem fact16 : ((Rows.itemLaterRow.loops == (Try.f5.params.toList ++ Rows.itemLaterSpec.plain.varTypes Try.pinned.checked.prog).any (Try.pinned.checked.prog.loopsFrom ·))) = true := by kernel_rfl
theorem fact17 : ((Rows.itemLaterRow.wideKeys == (Try.f5.params.toList ++ Rows.itemLaterSpec.plain.varTypes Try.pinned.checked.prog ++ Try.f5.resultTypes.toList).any (Try.pinned.checked.prog.wideKeysFrom ·))) = true := by kernel_rfl
theorem fact18 : (Rows.itemLaterSpec.vars.all (Try.pinned.checked.prog.varReadable ·)) = true := by kernel_rfl
theorem fact19 : (Try.f5.resultTypes.all (fun t => Try.pinned.checked.prog.readableRec t && decide (t < Try.pinned.checked.prog.types.size))) = true := by kernel_rfl
theorem fact20 : ((Rows.itemLaterRow.ifacesOut == Try.f5.resultTypes.toList.any (Try.pinned.checked.prog.ifacesRec ·))) = true := by kernel_rfl
theorem fact21 : ((Rows.itemLaterRow.loopsOut == Try.f5.resultTypes.toList.any (Try.pinned.checked.prog.loopsFrom ·))) = true := by kernel_rfl
theorem fact22 : ((Rows.itemLaterRow.plainKeys == Try.pinned.checked.prog.plainKeys)) = true := by kernel_rfl
theorem fact23 : (Rows.itemLaterRow.shortTexts.isNone) = true := by kernel_rfl
theorem fact24 : (Try.pinned.checked.prog.stopsHeard) = true := by kernel_rfl
theorem fact25 : (Try.pinned.checked.prog.mayEnter) = true := mayE
theorem fact26 : ((Rows.itemLaterRow.lifted == Try.pinned.checked.prog.liftsFinal)) = true := by
  rw [show Rows.itemLaterRow.lifted = Rows.vectorJoinsRow.lifted from rfl]
  exact liftsF
theorem fact27 : ((Try.pinned.checked.prog.make == some Rows.itemLaterRow.make)) = true := by
  rw [show Rows.itemLaterRow.make = Rows.vectorJoinsRow.make from rfl]
  exact makeF
theorem fact28 : ((Rows.itemLaterRow.kinds == (if Rows.itemLaterRow.domain.isEmpty then [] else Try.f5.params.toList.map fun t => match Try.pinned.checked.prog.underlying t with | some (.int k) => some k | _ => none))) = true := by kernel_rfl
theorem fact29 : ((Rows.itemLaterRow.pinned == Rows.itemLaterRow.pinnedBy)) = true := by kernel_rfl
theorem fact30 : ((Rows.itemLaterRow.veiled == (Try.f5.params.toList ++ Rows.itemLaterSpec.plain.varTypes Try.pinned.checked.prog ++ Try.f5.resultTypes.toList).any (Try.pinned.checked.prog.veiledRec ·))) = true := by kernel_rfl
theorem fact31 : (Rows.itemLaterRow.veiledFits Try.pinned.checked.prog Try.f5.params.toList (Try.f5.params.toList ++ Rows.itemLaterSpec.plain.varTypes Try.pinned.checked.prog ++ Try.f5.resultTypes.toList)) = true := by kernel_rfl
end Go.Proofs.Ytkdbjhlkahkobaa.pItemLater
