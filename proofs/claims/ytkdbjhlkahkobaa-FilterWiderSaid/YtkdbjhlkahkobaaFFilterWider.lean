/- closed facts of the row of FilterWider, by program -/
import Derived.Test.YtkdbjhlkahkobaaRows
import Derived.Test.YtkdbjhlkahkobaaPe
import Derived.Test.YtkdbjhlkahkobaaPl
import Derived.Test.YtkdbjhlkahkobaaPk
import Derived.ProofKit
namespace Go.Proofs.Ytkdbjhlkahkobaa.pFilterWider
open Go
theorem fact0 : (Rows.filterWiderRow.wf (OpenSpec.ofChange Rows.filterWiderSpec)) = true := by kernel_rfl
theorem fact1 : (laidOutB Try.pinned.checked.prog) = true := by kernel_rfl
theorem fact2 : (mapsRowed Try.pinned.checked.prog) = true := by kernel_rfl
theorem fact3 : (Try.f20.params.all (Try.pinned.checked.prog.readableRec ·)) = true := by kernel_rfl
theorem fact4 : (namedTie Try.pinned.checked.prog Rows.filterWiderRow.named Rows.filterWiderSpec.vars) = true := by kernel_rfl
theorem fact5 : ((Rows.filterWiderRow.stops == [])) = true := by kernel_rfl
theorem fact6 : ((Try.pinned.checked.prog.stops == [])) = true := by kernel_rfl
theorem fact7 : ((Rows.filterWiderRow.knobs == [])) = true := by kernel_rfl
theorem fact8 : ((Try.pinned.checked.prog.stopKnobs == [])) = true := by kernel_rfl
theorem fact9 : ((Rows.filterWiderRow.inPlace == Try.pinned.checked.prog.inPlace 20)) = true := by kernel_rfl
theorem fact10 : ((Rows.filterWiderRow.unfollowed == Try.pinned.checked.prog.unfollowed 20)) = true := by kernel_rfl
theorem fact11 : ((Rows.filterWiderRow.recurses == Try.pinned.checked.prog.recurses 20)) = true := by kernel_rfl
theorem fact12 : ((Rows.filterWiderRow.named == Try.pinned.checked.prog.varsNamed 20)) = true := by kernel_rfl
theorem fact13 : ((Rows.filterWiderRow.maps == (Try.f20.params.toList ++ Rows.filterWiderSpec.plain.varTypes Try.pinned.checked.prog).any (Try.pinned.checked.prog.mapsRec ·))) = true := by kernel_rfl
theorem fact14 : ((Rows.filterWiderRow.ifaces == (Try.f20.params.toList ++ Rows.filterWiderSpec.plain.varTypes Try.pinned.checked.prog).any (Try.pinned.checked.prog.ifacesRec ·))) = true := by kernel_rfl
theorem fact15 : ((Rows.filterWiderRow.mapsOut == Try.pinned.checked.prog.mapsAmong Try.f20.resultTypes.toList)) = true := by kernel_rfl
theorem fact16 : ((Rows.filterWiderRow.loops == (Try.f20.params.toList ++ Rows.filterWiderSpec.plain.varTypes Try.pinned.checked.prog).any (Try.pinned.checked.prog.loopsFrom ·))) = true := by kernel_rfl
theorem fact17 : ((Rows.filterWiderRow.wideKeys == (Try.f20.params.toList ++ Rows.filterWiderSpec.plain.varTypes Try.pinned.checked.prog ++ Try.f20.resultTypes.toList).any (Try.pinned.checked.prog.wideKeysFrom ·))) = true := by kernel_rfl
theorem fact18 : (Rows.filterWiderSpec.vars.all (Try.pinned.checked.prog.varReadable ·)) = true := by kernel_rfl
theorem fact19 : (Try.f20.resultTypes.all (fun t => Try.pinned.checked.prog.readableRec t && decide (t < Try.pinned.checked.prog.types.size))) = true := by kernel_rfl
theorem fact20 : ((Rows.filterWiderRow.ifacesOut == Try.f20.resultTypes.toList.any (Try.pinned.checked.prog.ifacesRec ·))) = true := by kernel_rfl
theorem fact21 : ((Rows.filterWiderRow.loopsOut == Try.f20.resultTypes.toList.any (Try.pinned.checked.prog.loopsFrom ·))) = true := by kernel_rfl
theorem fact22 : ((Rows.filterWiderRow.plainKeys == Try.pinned.checked.prog.plainKeys)) = true := by kernel_rfl
theorem fact23 : (Rows.filterWiderRow.shortTexts.isNone) = true := by kernel_rfl
theorem fact24 : (Try.pinned.checked.prog.stopsHeard) = true := by kernel_rfl
theorem fact25 : (Try.pinned.checked.prog.mayEnter) = true := mayE
theorem fact26 : ((Rows.filterWiderRow.lifted == Try.pinned.checked.prog.liftsFinal)) = true := by
  rw [show Rows.filterWiderRow.lifted = Rows.vectorJoinsRow.lifted from rfl]
  exact liftsF
theorem fact27 : ((Try.pinned.checked.prog.make == some Rows.filterWiderRow.make)) = true := by
  rw [show Rows.filterWiderRow.make = Rows.vectorJoinsRow.make from rfl]
  exact makeF
theorem fact28 : ((Rows.filterWiderRow.kinds == (if Rows.filterWiderRow.domain.isEmpty then [] else Try.f20.params.toList.map fun t => match Try.pinned.checked.prog.underlying t with | some (.int k) => some k | _ => none))) = true := by kernel_rfl
theorem fact29 : ((Rows.filterWiderRow.pinned == Rows.filterWiderRow.pinnedBy)) = true := by kernel_rfl
theorem fact30 : ((Rows.filterWiderRow.veiled == (Try.f20.params.toList ++ Rows.filterWiderSpec.plain.varTypes Try.pinned.checked.prog ++ Try.f20.resultTypes.toList).any (Try.pinned.checked.prog.veiledRec ·))) = true := by kernel_rfl
theorem fact31 : (Rows.filterWiderRow.veiledFits Try.pinned.checked.prog Try.f20.params.toList (Try.f20.params.toList ++ Rows.filterWiderSpec.plain.varTypes Try.pinned.checked.prog ++ Try.f20.resultTypes.toList)) = true := by kernel_rfl
end Go.Proofs.Ytkdbjhlkahkobaa.pFilterWider
