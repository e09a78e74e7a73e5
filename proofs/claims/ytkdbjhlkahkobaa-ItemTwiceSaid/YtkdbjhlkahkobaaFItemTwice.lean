/- closed facts of the row of ItemTwice, by program -/
import Derived.Test.YtkdbjhlkahkobaaRows
import Derived.Test.YtkdbjhlkahkobaaPe
import Derived.Test.YtkdbjhlkahkobaaPl
import Derived.Test.YtkdbjhlkahkobaaPk
import Derived.ProofKit
namespace Go.Proofs.Ytkdbjhlkahkobaa.pItemTwice
open Go
theorem fact0 : (Rows.itemTwiceRow.wf (OpenSpec.ofChange Rows.itemTwiceSpec)) = true := by kernel_rfl
theorem fact1 : (laidOutB Try.pinned.checked.prog) = true := by kernel_rfl
theorem fact2 : (mapsRowed Try.pinned.checked.prog) = true := by kernel_rfl
theorem fact3 : (Try.f16.params.all (Try.pinned.checked.prog.readableRec ·)) = true := by kernel_rfl
theorem fact4 : (namedTie Try.pinned.checked.prog Rows.itemTwiceRow.named Rows.itemTwiceSpec.vars) = true := by kernel_rfl
theorem fact5 : ((Rows.itemTwiceRow.stops == [])) = true := by kernel_rfl
theorem fact6 : ((Try.pinned.checked.prog.stops == [])) = true := by kernel_rfl
theorem fact7 : ((Rows.itemTwiceRow.knobs == [])) = true := by kernel_rfl
theorem fact8 : ((Try.pinned.checked.prog.stopKnobs == [])) = true := by kernel_rfl
theorem fact9 : ((Rows.itemTwiceRow.inPlace == Try.pinned.checked.prog.inPlace 16)) = true := by kernel_rfl
theorem fact10 : ((Rows.itemTwiceRow.unfollowed == Try.pinned.checked.prog.unfollowed 16)) = true := by kernel_rfl
theorem fact11 : ((Rows.itemTwiceRow.recurses == Try.pinned.checked.prog.recurses 16)) = true := by kernel_rfl
theorem fact12 : ((Rows.itemTwiceRow.named == Try.pinned.checked.prog.varsNamed 16)) = true := by kernel_rfl
theorem fact13 : ((Rows.itemTwiceRow.maps == (Try.f16.params.toList ++ Rows.itemTwiceSpec.plain.varTypes Try.pinned.checked.prog).any (Try.pinned.checked.prog.mapsRec ·))) = true := by kernel_rfl
theorem fact14 : ((Rows.itemTwiceRow.ifaces == (Try.f16.params.toList ++ Rows.itemTwiceSpec.plain.varTypes Try.pinned.checked.prog).any (Try.pinned.checked.prog.ifacesRec ·))) = true := by kernel_rfl
theorem fact15 : ((Rows.itemTwiceRow.mapsOut == Try.pinned.checked.prog.mapsAmong Try.f16.resultTypes.toList)) = true := by kernel_rfl
theorem fact16 : ((Rows.itemTwiceRow.loops == (Try.f16.params.toList ++ Rows.itemTwiceSpec.plain.varTypes Try.pinned.checked.prog).any (Try.pinned.checked.prog.loopsFrom ·))) = true := by kernel_rfl
theorem fact17 : ((Rows.itemTwiceRow.wideKeys == (Try.f16.params.toList ++ Rows.itemTwiceSpec.plain.varTypes Try.pinned.checked.prog ++ Try.f16.resultTypes.toList).any (Try.pinned.checked.prog.wideKeysFrom ·))) = true := by kernel_rfl
theorem fact18 : (Rows.itemTwiceSpec.vars.all (Try.pinned.checked.prog.varReadable ·)) = true := by kernel_rfl
theorem fact19 : (Try.f16.resultTypes.all (fun t => Try.pinned.checked.prog.readableRec t && decide (t < Try.pinned.checked.prog.types.size))) = true := by kernel_rfl
theorem fact20 : ((Rows.itemTwiceRow.ifacesOut == Try.f16.resultTypes.toList.any (Try.pinned.checked.prog.ifacesRec ·))) = true := by kernel_rfl
theorem fact21 : ((Rows.itemTwiceRow.loopsOut == Try.f16.resultTypes.toList.any (Try.pinned.checked.prog.loopsFrom ·))) = true := by kernel_rfl
theorem fact22 : ((Rows.itemTwiceRow.plainKeys == Try.pinned.checked.prog.plainKeys)) = true := by kernel_rfl
theorem fact23 : (Rows.itemTwiceRow.shortTexts.isNone) = true := by kernel_rfl
theorem fact24 : (Try.pinned.checked.prog.stopsHeard) = true := by kernel_rfl
theorem fact25 : (Try.pinned.checked.prog.mayEnter) = true := mayE
theorem fact26 : ((Rows.itemTwiceRow.lifted == Try.pinned.checked.prog.liftsFinal)) = true := by
  rw [show Rows.itemTwiceRow.lifted = Rows.vectorJoinsRow.lifted from rfl]
  exact liftsF
theorem fact27 : ((Try.pinned.checked.prog.make == some Rows.itemTwiceRow.make)) = true := by
  rw [show Rows.itemTwiceRow.make = Rows.vectorJoinsRow.make from rfl]
  exact makeF
theorem fact28 : ((Rows.itemTwiceRow.kinds == (if Rows.itemTwiceRow.domain.isEmpty then [] else Try.f16.params.toList.map fun t => match Try.pinned.checked.prog.underlying t with | some (.int k) => some k | _ => none))) = true := by kernel_rfl
theorem fact29 : ((Rows.itemTwiceRow.pinned == Rows.itemTwiceRow.pinnedBy)) = true := by kernel_rfl
theorem fact30 : ((Rows.itemTwiceRow.veiled == (Try.f16.params.toList ++ Rows.itemTwiceSpec.plain.varTypes Try.pinned.checked.prog ++ Try.f16.resultTypes.toList).any (Try.pinned.checked.prog.veiledRec ·))) = true := by kernel_rfl
theorem fact31 : (Rows.itemTwiceRow.veiledFits Try.pinned.checked.prog Try.f16.params.toList (Try.f16.params.toList ++ Rows.itemTwiceSpec.plain.varTypes Try.pinned.checked.prog ++ Try.f16.resultTypes.toList)) = true := by kernel_rfl
end Go.Proofs.Ytkdbjhlkahkobaa.pItemTwice
