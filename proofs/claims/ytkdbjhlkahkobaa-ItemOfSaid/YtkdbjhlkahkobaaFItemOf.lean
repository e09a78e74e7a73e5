/- closed facts of the row of ItemOf, by program -/
import Derived.Test.YtkdbjhlkahkobaaRows
import Derived.Test.YtkdbjhlkahkobaaPe
import Derived.Test.YtkdbjhlkahkobaaPl
import Derived.Test.YtkdbjhlkahkobaaPk
import Derived.ProofKit
namespace Go.Proofs.Ytkdbjhlkahkobaa.pItemOf
open Go
theorem fact0 : (Rows.itemOfRow.wf (OpenSpec.ofChange Rows.itemOfSpec)) = true := by kernel_rfl
theorem fact1 : (laidOutB Try.pinned.checked.prog) = true := by kernel_rfl
theorem fact2 : (mapsRowed Try.pinned.checked.prog) = true := by kernel_rfl
theorem fact3 : (Try.f15.params.all (Try.pinned.checked.prog.readableRec ·)) = true := by kernel_rfl
theorem fact4 : (namedTie Try.pinned.checked.prog Rows.itemOfRow.named Rows.itemOfSpec.vars) = true := by kernel_rfl
theorem fact5 : ((Rows.itemOfRow.stops == [])) = true := by kernel_rfl
theorem fact6 : ((Try.pinned.checked.prog.stops == [])) = true := by kernel_rfl
theorem fact7 : ((Rows.itemOfRow.knobs == [])) = true := by kernel_rfl
theorem fact8 : ((Try.pinned.checked.prog.stopKnobs == [])) = true := by kernel_rfl
theorem fact9 : ((Rows.itemOfRow.inPlace == Try.pinned.checked.prog.inPlace 15)) = true := by kernel_rfl
theorem fact10 : ((Rows.itemOfRow.unfollowed == Try.pinned.checked.prog.unfollowed 15)) = true := by kernel_rfl
theorem fact11 : ((Rows.itemOfRow.recurses == Try.pinned.checked.prog.recurses 15)) = true := by kernel_rfl
theorem fact12 : ((Rows.itemOfRow.named == Try.pinned.checked.prog.varsNamed 15)) = true := by kernel_rfl
theorem fact13 : ((Rows.itemOfRow.maps == (Try.f15.params.toList ++ Rows.itemOfSpec.plain.varTypes Try.pinned.checked.prog).any (Try.pinned.checked.prog.mapsRec ·))) = true := by kernel_rfl
theorem fact14 : ((Rows.itemOfRow.ifaces == (Try.f15.params.toList ++ Rows.itemOfSpec.plain.varTypes Try.pinned.checked.prog).any (Try.pinned.checked.prog.ifacesRec ·))) = true := by kernel_rfl
theorem fact15 : ((Rows.itemOfRow.mapsOut == Try.pinned.checked.prog.mapsAmong Try.f15.resultTypes.toList)) = true := by kernel_rfl
theorem fact16 : ((Rows.itemOfRow.loops == (Try.f15.params.toList ++ Rows.itemOfSpec.plain.varTypes Try.pinned.checked.prog).any (Try.pinned.checked.prog.loopsFrom ·))) = true := by kernel_rfl
theorem fact17 : ((Rows.itemOfRow.wideKeys == (Try.f15.params.toList ++ Rows.itemOfSpec.plain.varTypes Try.pinned.checked.prog ++ Try.f15.resultTypes.toList).any (Try.pinned.checked.prog.wideKeysFrom ·))) = true := by kernel_rfl
theorem fact18 : (Rows.itemOfSpec.vars.all (Try.pinned.checked.prog.varReadable ·)) = true := by kernel_rfl
theorem fact19 : (Try.f15.resultTypes.all (fun t => Try.pinned.checked.prog.readableRec t && decide (t < Try.pinned.checked.prog.types.size))) = true := by kernel_rfl
theorem fact20 : ((Rows.itemOfRow.ifacesOut == Try.f15.resultTypes.toList.any (Try.pinned.checked.prog.ifacesRec ·))) = true := by kernel_rfl
theorem fact21 : ((Rows.itemOfRow.loopsOut == Try.f15.resultTypes.toList.any (Try.pinned.checked.prog.loopsFrom ·))) = true := by kernel_rfl
theorem fact22 : ((Rows.itemOfRow.plainKeys == Try.pinned.checked.prog.plainKeys)) = true := by kernel_rfl
theorem fact23 : (Rows.itemOfRow.shortTexts.isNone) = true := by kernel_rfl
theorem fact24 : (Try.pinned.checked.prog.stopsHeard) = true := by kernel_rfl
theorem fact25 : (Try.pinned.checked.prog.mayEnter) = true := mayE
theorem fact26 : ((Rows.itemOfRow.lifted == Try.pinned.checked.prog.liftsFinal)) = true := by
  rw [show Rows.itemOfRow.lifted = Rows.vectorJoinsRow.lifted from rfl]
  exact liftsF
theorem fact27 : ((Try.pinned.checked.prog.make == some Rows.itemOfRow.make)) = true := by
  rw [show Rows.itemOfRow.make = Rows.vectorJoinsRow.make from rfl]
  exact makeF
theorem fact28 : ((Rows.itemOfRow.kinds == (if Rows.itemOfRow.domain.isEmpty then [] else Try.f15.params.toList.map fun t => match Try.pinned.checked.prog.underlying t with | some (.int k) => some k | _ => none))) = true := by kernel_rfl
theorem fact29 : ((Rows.itemOfRow.pinned == Rows.itemOfRow.pinnedBy)) = true := by kernel_rfl
theorem fact30 : ((Rows.itemOfRow.veiled == (Try.f15.params.toList ++ Rows.itemOfSpec.plain.varTypes Try.pinned.checked.prog ++ Try.f15.resultTypes.toList).any (Try.pinned.checked.prog.veiledRec ·))) = true := by kernel_rfl
theorem fact31 : (Rows.itemOfRow.veiledFits Try.pinned.checked.prog Try.f15.params.toList (Try.f15.params.toList ++ Rows.itemOfSpec.plain.varTypes Try.pinned.checked.prog ++ Try.f15.resultTypes.toList)) = true := by kernel_rfl
end Go.Proofs.Ytkdbjhlkahkobaa.pItemOf
