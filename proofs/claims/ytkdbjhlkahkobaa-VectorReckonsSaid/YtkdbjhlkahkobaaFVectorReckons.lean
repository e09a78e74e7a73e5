/- closed facts of the row of VectorReckons, by program -/
import Derived.Test.YtkdbjhlkahkobaaRows
import Derived.Test.YtkdbjhlkahkobaaPe
import Derived.Test.YtkdbjhlkahkobaaPl
import Derived.Test.YtkdbjhlkahkobaaPk
import Derived.ProofKit
namespace Go.Proofs.Ytkdbjhlkahkobaa.pVectorReckons
open Go
theorem fact0 : (Rows.vectorReckonsRow.wf (OpenSpec.ofChange Rows.vectorReckonsSpec)) = true := by kernel_rfl
theorem fact1 : (laidOutB Try.pinned.checked.prog) = true := by kernel_rfl
theorem fact2 : (mapsRowed Try.pinned.checked.prog) = true := by kernel_rfl
theorem fact3 : (Try.f4.params.all (Try.pinned.checked.prog.readableRec ·)) = true := by kernel_rfl
theorem fact4 : (namedTie Try.pinned.checked.prog Rows.vectorReckonsRow.named Rows.vectorReckonsSpec.vars) = true := by kernel_rfl
theorem fact5 : ((Rows.vectorReckonsRow.stops == [])) = true := by kernel_rfl
theorem fact6 : ((Try.pinned.checked.prog.stops == [])) = true := by kernel_rfl
theorem fact7 : ((Rows.vectorReckonsRow.knobs == [])) = true := by kernel_rfl
theorem fact8 : ((Try.pinned.checked.prog.stopKnobs == [])) = true := by kernel_rfl
theorem fact9 : ((Rows.vectorReckonsRow.inPlace == Try.pinned.checked.prog.inPlace 4)) = true := by kernel_rfl
theorem fact10 : ((Rows.vectorReckonsRow.unfollowed == Try.pinned.checked.prog.unfollowed 4)) = true := by kernel_rfl
theorem fact11 : ((Rows.vectorReckonsRow.recurses == Try.pinned.checked.prog.recurses 4)) = true := by kernel_rfl
theorem fact12 : ((Rows.vectorReckonsRow.named == Try.pinned.checked.prog.varsNamed 4)) = true := by kernel_rfl
theorem fact13 : ((Rows.vectorReckonsRow.maps == (Try.f4.params.toList ++ Rows.vectorReckonsSpec.plain.varTypes Try.pinned.checked.prog).any (Try.pinned.checked.prog.mapsRec ·))) = true := by kernel_rfl
theorem fact14 : ((Rows.vectorReckonsRow.ifaces == (Try.f4.params.toList ++ Rows.vectorReckonsSpec.plain.varTypes Try.pinned.checked.prog).any (Try.pinned.checked.prog.ifacesRec ·))) = true := by kernel_rfl
theorem fact15 : ((Rows.vectorReckonsRow.mapsOut == Try.pinned.checked.prog.mapsAmong Try.f4.resultTypes.toList)) = true := by kernel_rfl
theorem fact16 : ((Rows.vectorReckonsRow.loops == (Try.f4.params.toList ++ Rows.vectorReckonsSpec.plain.varTypes Try.pinned.checked.prog).any (Try.pinned.checked.prog.loopsFrom ·))) = true := by kernel_rfl
theorem fact17 : ((Rows.vectorReckonsRow.wideKeys == (Try.f4.params.toList ++ Rows.vectorReckonsSpec.plain.varTypes Try.pinned.checked.prog ++ Try.f4.resultTypes.toList).any (Try.pinned.checked.prog.wideKeysFrom ·))) = true := by kernel_rfl
theorem fact18 : (Rows.vectorReckonsSpec.vars.all (Try.pinned.checked.prog.varReadable ·)) = true := by kernel_rfl
theorem fact19 : (Try.f4.resultTypes.all (fun t => Try.pinned.checked.prog.readableRec t && decide (t < Try.pinned.checked.prog.types.size))) = true := by kernel_rfl
theorem fact20 : ((Rows.vectorReckonsRow.ifacesOut == Try.f4.resultTypes.toList.any (Try.pinned.checked.prog.ifacesRec ·))) = true := by kernel_rfl
theorem fact21 : ((Rows.vectorReckonsRow.loopsOut == Try.f4.resultTypes.toList.any (Try.pinned.checked.prog.loopsFrom ·))) = true := by kernel_rfl
theorem fact22 : ((Rows.vectorReckonsRow.plainKeys == Try.pinned.checked.prog.plainKeys)) = true := by kernel_rfl
theorem fact23 : (Rows.vectorReckonsRow.shortTexts.isNone) = true := by kernel_rfl
theorem fact24 : (Try.pinned.checked.prog.stopsHeard) = true := by kernel_rfl
theorem fact25 : (Try.pinned.checked.prog.mayEnter) = true := mayE
theorem fact26 : ((Rows.vectorReckonsRow.lifted == Try.pinned.checked.prog.liftsFinal)) = true := by
  rw [show Rows.vectorReckonsRow.lifted = Rows.vectorJoinsRow.lifted from rfl]
  exact liftsF
theorem fact27 : ((Try.pinned.checked.prog.make == some Rows.vectorReckonsRow.make)) = true := by
  rw [show Rows.vectorReckonsRow.make = Rows.vectorJoinsRow.make from rfl]
  exact makeF
theorem fact28 : ((Rows.vectorReckonsRow.kinds == (if Rows.vectorReckonsRow.domain.isEmpty then [] else Try.f4.params.toList.map fun t => match Try.pinned.checked.prog.underlying t with | some (.int k) => some k | _ => none))) = true := by kernel_rfl
theorem fact29 : ((Rows.vectorReckonsRow.pinned == Rows.vectorReckonsRow.pinnedBy)) = true := by kernel_rfl
theorem fact30 : ((Rows.vectorReckonsRow.veiled == (Try.f4.params.toList ++ Rows.vectorReckonsSpec.plain.varTypes Try.pinned.checked.prog ++ Try.f4.resultTypes.toList).any (Try.pinned.checked.prog.veiledRec ·))) = true := by kernel_rfl
theorem fact31 : (Rows.vectorReckonsRow.veiledFits Try.pinned.checked.prog Try.f4.params.toList (Try.f4.params.toList ++ Rows.vectorReckonsSpec.plain.varTypes Try.pinned.checked.prog ++ Try.f4.resultTypes.toList)) = true := by kernel_rfl
end Go.Proofs.Ytkdbjhlkahkobaa.pVectorReckons
