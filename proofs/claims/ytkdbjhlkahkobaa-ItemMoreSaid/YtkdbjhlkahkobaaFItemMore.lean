/- closed facts of the row of ItemMore, by program -/
import Derived.Test.YtkdbjhlkahkobaaRows
import Derived.Test.YtkdbjhlkahkobaaPe
import Derived.Test.YtkdbjhlkahkobaaPl
import Derived.Test.YtkdbjhlkahkobaaPk
import Derived.ProofKit
namespace Go.Proofs.Ytkdbjhlkahkobaa.pItemMore
open Go
theorem fact0 : (Rows.itemMoreRow.wf (OpenSpec.ofChange Rows.itemMoreSpec)) = true := by kernel_rfl
theorem fact1 : (laidOutB Try.pinned.checked.prog) = true := by kernel_rfl
theorem fact2 : (mapsRowed Try.pinned.checked.prog) = true := by kernel_rfl
theorem fact3 : (Try.f14.params.all (Try.pinned.checked.prog.readableRec ·)) = true := by kernel_rfl
theorem fact4 : (namedTie Try.pinned.checked.prog Rows.itemMoreRow.named Rows.itemMoreSpec.vars) = true := by kernel_rfl
theorem fact5 : ((Rows.itemMoreRow.stops == [])) = true := by kernel_rfl
theorem fact6 : ((Try.pinned.checked.prog.stops == [])) = true := by kernel_rfl
theorem fact7 : ((Rows.itemMoreRow.knobs == [])) = true := by kernel_rfl
theorem fact8 : ((Try.pinned.checked.prog.stopKnobs == [])) = true := by kernel_rfl
theorem fact9 : ((Rows.itemMoreRow.inPlace == Try.pinned.checked.prog.inPlace 14)) = true := by kernel_rfl
theorem fact10 : ((Rows.itemMoreRow.unfollowed == Try.pinned.checked.prog.unfollowed 14)) = true := by kernel_rfl
theorem fact11 : ((Rows.itemMoreRow.recurses == Try.pinned.checked.prog.recurses 14)) = true := by kernel_rfl
theorem fact12 : ((Rows.itemMoreRow.named == Try.pinned.checked.prog.varsNamed 14)) = true := by kernel_rfl
theorem fact13 : ((Rows.itemMoreRow.maps == (Try.f14.params.toList ++ Rows.itemMoreSpec.plain.varTypes Try.pinned.checked.prog).any (Try.pinned.checked.prog.mapsRec ·))) = true := by kernel_rfl
theorem fact14 : ((Rows.itemMoreRow.ifaces == (Try.f14.params.toList ++ Rows.itemMoreSpec.plain.varTypes Try.pinned.checked.prog).any (Try.pinned.checked.prog.ifacesRec ·))) = true := by kernel_rfl
theorem fact15 : ((Rows.itemMoreRow.mapsOut == Try.pinned.checked.prog.mapsAmong Try.f14.resultTypes.toList)) = true := by kernel_rfl
theorem fact16 : ((Rows.itemMoreRow.loops == (Try.f14.params.toList ++ Rows.itemMoreSpec.plain.varTypes Try.pinned.checked.prog).any (Try.pinned.checked.prog.loopsFrom ·))) = true := by kernel_rfl
theorem fact17 : ((Rows.itemMoreRow.wideKeys == (Try.f14.params.toList ++ Rows.itemMoreSpec.plain.varTypes Try.pinned.checked.prog ++ Try.f14.resultTypes.toList).any (Try.pinned.checked.prog.wideKeysFrom ·))) = true := by kernel_rfl
theorem fact18 : (Rows.itemMoreSpec.vars.all (Try.pinned.checked.prog.varReadable ·)) = true := by kernel_rfl
theorem fact19 : (Try.f14.resultTypes.all (fun t => Try.pinned.checked.prog.readableRec t && decide (t < Try.pinned.checked.prog.types.size))) = true := by kernel_rfl
theorem fact20 : ((Rows.itemMoreRow.ifacesOut == Try.f14.resultTypes.toList.any (Try.pinned.checked.prog.ifacesRec ·))) = true := by kernel_rfl
theorem fact21 : ((Rows.itemMoreRow.loopsOut == Try.f14.resultTypes.toList.any (Try.pinned.checked.prog.loopsFrom ·))) = true := by kernel_rfl
theorem fact22 : ((Rows.itemMoreRow.plainKeys == Try.pinned.checked.prog.plainKeys)) = true := by kernel_rfl
theorem fact23 : (Rows.itemMoreRow.shortTexts.isNone) = true := by kernel_rfl
theorem fact24 : (Try.pinned.checked.prog.stopsHeard) = true := by kernel_rfl
theorem fact25 : (Try.pinned.checked.prog.mayEnter) = true := mayE
theorem fact26 : ((Rows.itemMoreRow.lifted == Try.pinned.checked.prog.liftsFinal)) = true := by
  rw [show Rows.itemMoreRow.lifted = Rows.vectorJoinsRow.lifted from rfl]
  exact liftsF
theorem fact27 : ((Try.pinned.checked.prog.make == some Rows.itemMoreRow.make)) = true := by
  rw [show Rows.itemMoreRow.make = Rows.vectorJoinsRow.make from rfl]
  exact makeF
theorem fact28 : ((Rows.itemMoreRow.kinds == (if Rows.itemMoreRow.domain.isEmpty then [] else Try.f14.params.toList.map fun t => match Try.pinned.checked.prog.underlying t with | some (.int k) => some k | _ => none))) = true := by kernel_rfl
theorem fact29 : ((Rows.itemMoreRow.pinned == Rows.itemMoreRow.pinnedBy)) = true := by kernel_rfl
theorem fact30 : ((Rows.itemMoreRow.veiled == (Try.f14.params.toList ++ Rows.itemMoreSpec.plain.varTypes Try.pinned.checked.prog ++ Try.f14.resultTypes.toList).any (Try.pinned.checked.prog.veiledRec ·))) = true := by kernel_rfl
theorem fact31 : (Rows.itemMoreRow.veiledFits Try.pinned.checked.prog Try.f14.params.toList (Try.f14.params.toList ++ Rows.itemMoreSpec.plain.varTypes Try.pinned.checked.prog ++ Try.f14.resultTypes.toList)) = true := by kernel_rfl
end Go.Proofs.Ytkdbjhlkahkobaa.pItemMore
