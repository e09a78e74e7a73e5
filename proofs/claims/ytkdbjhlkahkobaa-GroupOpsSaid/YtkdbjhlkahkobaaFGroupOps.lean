/- closed facts of the row of GroupOps, by program -/
import Derived.Test.YtkdbjhlkahkobaaRows
import Derived.Test.YtkdbjhlkahkobaaPe
import Derived.Test.YtkdbjhlkahkobaaPl
import Derived.Test.YtkdbjhlkahkobaaPk
import Derived.ProofKit
namespace Go.Proofs.Ytkdbjhlkahkobaa.pGroupOps
open Go
theorem fact0 : (Rows.groupOpsRow.wf (OpenSpec.ofChange Rows.groupOpsSpec)) = true := by kernel_rfl
theorem fact1 : (laidOutB Try.pinned.checked.prog) = true := by kernel_rfl
theorem fact2 : (mapsRowed Try.pinned.checked.prog) = true := by kernel_rfl
theorem fact3 : (Try.f8.params.all (Try.pinned.checked.prog.readableRec ·)) = true := by kernel_rfl
theorem fact4 : (namedTie Try.pinned.checked.prog Rows.groupOpsRow.named Rows.groupOpsSpec.vars) = true := by kernel_rfl
theorem fact5 : ((Rows.groupOpsRow.stops == [])) = true := by kernel_rfl
theorem fact6 : ((Try.pinned.checked.prog.stops == [])) = true := by kernel_rfl
theorem fact7 : ((Rows.groupOpsRow.knobs == [])) = true := by kernel_rfl
theorem fact8 : ((Try.pinned.checked.prog.stopKnobs == [])) = true := by kernel_rfl
theorem fact9 : ((Rows.groupOpsRow.inPlace == Try.pinned.checked.prog.inPlace 8)) = true := by kernel_rfl
theorem fact10 : ((Rows.groupOpsRow.unfollowed == Try.pinned.checked.prog.unfollowed 8)) = true := by kernel_rfl
theorem fact11 : ((Rows.groupOpsRow.recurses == Try.pinned.checked.prog.recurses 8)) = true := by kernel_rfl
theorem fact12 : ((Rows.groupOpsRow.named == Try.pinned.checked.prog.varsNamed 8)) = true := by kernel_rfl
theorem fact13 : ((Rows.groupOpsRow.maps == (Try.f8.params.toList ++ Rows.groupOpsSpec.plain.varTypes Try.pinned.checked.prog).any (Try.pinned.checked.prog.mapsRec ·))) = true := by kernel_rfl
theorem fact14 : ((Rows.groupOpsRow.ifaces == (Try.f8.params.toList ++ Rows.groupOpsSpec.plain.varTypes Try.pinned.checked.prog).any (Try.pinned.checked.prog.ifacesRec ·))) = true := by kernel_rfl
theorem fact15 : ((Rows.groupOpsRow.mapsOut == Try.pinned.checked.prog.mapsAmong Try.f8.resultTypes.toList)) = true := by kernel_rfl
theorem fact16 : ((Rows.groupOpsRow.loops == (Try.f8.params.toList ++ Rows.groupOpsSpec.plain.varTypes Try.pinned.checked.prog).any (Try.pinned.checked.prog.loopsFrom ·))) = true := by kernel_rfl
theorem fact17 : ((Rows.groupOpsRow.wideKeys == (Try.f8.params.toList ++ Rows.groupOpsSpec.plain.varTypes Try.pinned.checked.prog ++ Try.f8.resultTypes.toList).any (Try.pinned.checked.prog.wideKeysFrom ·))) = true := by kernel_rfl
theorem fact18 : (Rows.groupOpsSpec.vars.all (Try.pinned.checked.prog.varReadable ·)) = true := by kernel_rfl
theorem fact19 : (Try.f8.resultTypes.all (fun t => Try.pinned.checked.prog.readableRec t && decide (t < Try.pinned.checked.prog.types.size))) = true := by kernel_rfl
theorem fact20 : ((Rows.groupOpsRow.ifacesOut == Try.f8.resultTypes.toList.any (Try.pinned.checked.prog.ifacesRec ·))) = true := by kernel_rfl
theorem fact21 : ((Rows.groupOpsRow.loopsOut == Try.f8.resultTypes.toList.any (Try.pinned.checked.prog.loopsFrom ·))) = true := by kernel_rfl
theorem fact22 : ((Rows.groupOpsRow.plainKeys == Try.pinned.checked.prog.plainKeys)) = true := by kernel_rfl
theorem fact23 : (Rows.groupOpsRow.shortTexts.isNone) = true := by kernel_rfl
theorem fact24 : (Try.pinned.checked.prog.stopsHeard) = true := by kernel_rfl
theorem fact25 : (Try.pinned.checked.prog.mayEnter) = true := mayE
theorem fact26 : ((Rows.groupOpsRow.lifted == Try.pinned.checked.prog.liftsFinal)) = true := by
  rw [show Rows.groupOpsRow.lifted = Rows.vectorJoinsRow.lifted from rfl]
  exact liftsF
theorem fact27 : ((Try.pinned.checked.prog.make == some Rows.groupOpsRow.make)) = true := by
  rw [show Rows.groupOpsRow.make = Rows.vectorJoinsRow.make from rfl]
  exact makeF
theorem fact28 : ((Rows.groupOpsRow.kinds == (if Rows.groupOpsRow.domain.isEmpty then [] else Try.f8.params.toList.map fun t => match Try.pinned.checked.prog.underlying t with | some (.int k) => some k | _ => none))) = true := by kernel_rfl
theorem fact29 : ((Rows.groupOpsRow.pinned == Rows.groupOpsRow.pinnedBy)) = true := by kernel_rfl
theorem fact30 : ((Rows.groupOpsRow.veiled == (Try.f8.params.toList ++ Rows.groupOpsSpec.plain.varTypes Try.pinned.checked.prog ++ Try.f8.resultTypes.toList).any (Try.pinned.checked.prog.veiledRec ·))) = true := by kernel_rfl
theorem fact31 : (Rows.groupOpsRow.veiledFits Try.pinned.checked.prog Try.f8.params.toList (Try.f8.params.toList ++ Rows.groupOpsSpec.plain.varTypes Try.pinned.checked.prog ++ Try.f8.resultTypes.toList)) = true := by kernel_rfl
end Go.Proofs.Ytkdbjhlkahkobaa.pGroupOps
