/- closed facts of the row of VectorJoins, by program -/
import Derived.Test.YtkdbjhlkahkobaaRows
import Derived.Test.YtkdbjhlkahkobaaPe
import Derived.Test.YtkdbjhlkahkobaaPl
import Derived.Test.YtkdbjhlkahkobaaPk
import Derived.ProofKit
namespace Go.Proofs.Ytkdbjhlkahkobaa.pVectorJoins
open Go
theorem fact0 : (Rows.vectorJoinsRow.wf (OpenSpec.ofChange Rows.vectorJoinsSpec)) = true := by kernel_rfl
theorem fact1 : (laidOutB Try.pinned.checked.prog) = true := by kernel_rfl
theorem fact2 : (mapsRowed Try.pinned.checked.prog) = true := by kernel_rfl
theorem fact3 : (Try.f3.params.all (Try.pinned.checked.prog.readableRec ·)) = true := by kernel_rfl
theorem fact4 : (namedTie Try.pinned.checked.prog Rows.vectorJoinsRow.named Rows.vectorJoinsSpec.vars) = true := by kernel_rfl
theorem fact5 : ((Rows.vectorJoinsRow.stops == [])) = true := by kernel_rfl
theorem fact6 : ((Try.pinned.checked.prog.stops == [])) = true := by kernel_rfl
theorem fact7 : ((Rows.vectorJoinsRow.knobs == [])) = true := by kernel_rfl
theorem fact8 : ((Try.pinned.checked.prog.stopKnobs == [])) = true := by kernel_rfl
theorem fact9 : ((Rows.vectorJoinsRow.inPlace == Try.pinned.checked.prog.inPlace 3)) = true := by kernel_rfl
theorem fact10 : ((Rows.vectorJoinsRow.unfollowed == Try.pinned.checked.prog.unfollowed 3)) = true := by kernel_rfl
theorem fact11 : ((Rows.vectorJoinsRow.recurses == Try.pinned.checked.prog.recurses 3)) = true := by kernel_rfl
theorem fact12 : ((Rows.vectorJoinsRow.named == Try.pinned.checked.prog.varsNamed 3)) = true := by kernel_rfl
theorem fact13 : ((Rows.vectorJoinsRow.maps == (Try.f3.params.toList ++ Rows.vectorJoinsSpec.plain.varTypes Try.pinned.checked.prog).any (Try.pinned.checked.prog.mapsRec ·))) = true := by kernel_rfl
theorem fact14 : ((Rows.vectorJoinsRow.ifaces == (Try.f3.params.toList ++ Rows.vectorJoinsSpec.plain.varTypes Try.pinned.checked.prog).any (Try.pinned.checked.prog.ifacesRec ·))) = true := by kernel_rfl
theorem fact15 : ((Rows.vectorJoinsRow.mapsOut == Try.pinned.checked.prog.mapsAmong Try.f3.resultTypes.toList)) = true := by kernel_rfl
theorem fact16 : ((Rows.vectorJoinsRow.loops == (Try.f3.params.toList ++ Rows.vectorJoinsSpec.plain.varTypes Try.pinned.checked.prog).any (Try.pinned.checked.prog.loopsFrom ·))) = true := by kernel_rfl
theorem fact17 : ((Rows.vectorJoinsRow.wideKeys == (Try.f3.params.toList ++ Rows.vectorJoinsSpec.plain.varTypes Try.pinned.checked.prog ++ Try.f3.resultTypes.toList).any (Try.pinned.checked.prog.wideKeysFrom ·))) = true := by kernel_rfl
theorem fact18 : (Rows.vectorJoinsSpec.vars.all (Try.pinned.checked.prog.varReadable ·)) = true := by kernel_rfl
theorem fact19 : (Try.f3.resultTypes.all (fun t => Try.pinned.checked.prog.readableRec t && decide (t < Try.pinned.checked.prog.types.size))) = true := by kernel_rfl
theorem fact20 : ((Rows.vectorJoinsRow.ifacesOut == Try.f3.resultTypes.toList.any (Try.pinned.checked.prog.ifacesRec ·))) = true := by kernel_rfl
theorem fact21 : ((Rows.vectorJoinsRow.loopsOut == Try.f3.resultTypes.toList.any (Try.pinned.checked.prog.loopsFrom ·))) = true := by kernel_rfl
theorem fact22 : ((Rows.vectorJoinsRow.plainKeys == Try.pinned.checked.prog.plainKeys)) = true := by kernel_rfl
theorem fact23 : (Rows.vectorJoinsRow.shortTexts.isNone) = true := by kernel_rfl
theorem fact24 : (Try.pinned.checked.prog.stopsHeard) = true := by kernel_rfl
theorem fact25 : (Try.pinned.checked.prog.mayEnter) = true := mayE
theorem fact26 : ((Rows.vectorJoinsRow.lifted == Try.pinned.checked.prog.liftsFinal)) = true := by
  rw [show Rows.vectorJoinsRow.lifted = Rows.vectorJoinsRow.lifted from rfl]
  exact liftsF
theorem fact27 : ((Try.pinned.checked.prog.make == some Rows.vectorJoinsRow.make)) = true := by
  rw [show Rows.vectorJoinsRow.make = Rows.vectorJoinsRow.make from rfl]
  exact makeF
theorem fact28 : ((Rows.vectorJoinsRow.kinds == (if Rows.vectorJoinsRow.domain.isEmpty then [] else Try.f3.params.toList.map fun t => match Try.pinned.checked.prog.underlying t with | some (.int k) => some k | _ => none))) = true := by kernel_rfl
theorem fact29 : ((Rows.vectorJoinsRow.pinned == Rows.vectorJoinsRow.pinnedBy)) = true := by kernel_rfl
theorem fact30 : ((Rows.vectorJoinsRow.veiled == (Try.f3.params.toList ++ Rows.vectorJoinsSpec.plain.varTypes Try.pinned.checked.prog ++ Try.f3.resultTypes.toList).any (Try.pinned.checked.prog.veiledRec ·))) = true := by kernel_rfl
theorem fact31 : (Rows.vectorJoinsRow.veiledFits Try.pinned.checked.prog Try.f3.params.toList (Try.f3.params.toList ++ Rows.vectorJoinsSpec.plain.varTypes Try.pinned.checked.prog ++ Try.f3.resultTypes.toList)) = true := by kernel_rfl
end Go.Proofs.Ytkdbjhlkahkobaa.pVectorJoins
