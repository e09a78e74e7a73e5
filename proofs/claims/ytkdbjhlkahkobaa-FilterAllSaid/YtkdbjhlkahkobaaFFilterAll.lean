/- closed facts of the row of FilterAll, by program -/
import Derived.Test.YtkdbjhlkahkobaaRows
import Derived.Test.YtkdbjhlkahkobaaPe
import Derived.Test.YtkdbjhlkahkobaaPl
import Derived.Test.YtkdbjhlkahkobaaPk
import Derived.ProofKit
namespace Go.Proofs.Ytkdbjhlkahkobaa.pFilterAll
open Go
theorem fact0 : (Rows.filterAllRow.wf (OpenSpec.ofChange Rows.filterAllSpec)) = true := by kernel_rfl
theorem fact1 : (laidOutB Try.pinned.checked.prog) = true := by kernel_rfl
theorem fact2 : (mapsRowed Try.pinned.checked.prog) = true := by kernel_rfl
theorem fact3 : (Try.f18.params.all (Try.pinned.checked.prog.readableRec ·)) = true := by kernel_rfl
theorem fact4 : (namedTie Try.pinned.checked.prog Rows.filterAllRow.named Rows.filterAllSpec.vars) = true := by kernel_rfl
theorem fact5 : ((Rows.filterAllRow.stops == [])) = true := by kernel_rfl
theorem fact6 : ((Try.pinned.checked.prog.stops == [])) = true := by kernel_rfl
theorem fact7 : ((Rows.filterAllRow.knobs == [])) = true := by kernel_rfl
theorem fact8 : ((Try.pinned.checked.prog.stopKnobs == [])) = true := by kernel_rfl
theorem fact9 : ((Rows.filterAllRow.inPlace == Try.pinned.checked.prog.inPlace 18)) = true := by kernel_rfl
theorem fact10 : ((Rows.filterAllRow.unfollowed == Try.pinned.checked.prog.unfollowed 18)) = true := by kernel_rfl
theorem fact11 : ((Rows.filterAllRow.recurses == Try.pinned.checked.prog.recurses 18)) = true := by kernel_rfl
theorem fact12 : ((Rows.filterAllRow.named == Try.pinned.checked.prog.varsNamed 18)) = true := by kernel_rfl
theorem fact13 : ((Rows.filterAllRow.maps == (Try.f18.params.toList ++ Rows.filterAllSpec.plain.varTypes Try.pinned.checked.prog).any (Try.pinned.checked.prog.mapsRec ·))) = true := by kernel_rfl
theorem fact14 : ((Rows.filterAllRow.ifaces == (Try.f18.params.toList ++ Rows.filterAllSpec.plain.varTypes Try.pinned.checked.prog).any (Try.pinned.checked.prog.ifacesRec ·))) = true := by kernel_rfl
theorem fact15 : ((Rows.filterAllRow.mapsOut == Try.pinned.checked.prog.mapsAmong Try.f18.resultTypes.toList)) = true := by kernel_rfl
theorem fact16 : ((Rows.filterAllRow.loops == (Try.f18.params.toList ++ Rows.filterAllSpec.plain.varTypes Try.pinned.checked.prog).any (Try.pinned.checked.prog.loopsFrom ·))) = true := by kernel_rfl
theorem fact17 : ((Rows.filterAllRow.wideKeys == (Try.f18.params.toList ++ Rows.filterAllSpec.plain.varTypes Try.pinned.checked.prog ++ Try.f18.resultTypes.toList).any (Try.pinned.checked.prog.wideKeysFrom ·))) = true := by kernel_rfl
theorem fact18 : (Rows.filterAllSpec.vars.all (Try.pinned.checked.prog.varReadable ·)) = true := by kernel_rfl
theorem fact19 : (Try.f18.resultTypes.all (fun t => Try.pinned.checked.prog.readableRec t && decide (t < Try.pinned.checked.prog.types.size))) = true := by kernel_rfl
theorem fact20 : ((Rows.filterAllRow.ifacesOut == Try.f18.resultTypes.toList.any (Try.pinned.checked.prog.ifacesRec ·))) = true := by kernel_rfl
theorem fact21 : ((Rows.filterAllRow.loopsOut == Try.f18.resultTypes.toList.any (Try.pinned.checked.prog.loopsFrom ·))) = true := by kernel_rfl
theorem fact22 : ((Rows.filterAllRow.plainKeys == Try.pinned.checked.prog.plainKeys)) = true := by kernel_rfl
theorem fact23 : (Rows.filterAllRow.shortTexts.isNone) = true := by kernel_rfl
theorem fact24 : (Try.pinned.checked.prog.stopsHeard) = true := by kernel_rfl
theorem fact25 : (Try.pinned.checked.prog.mayEnter) = true := mayE
theorem fact26 : ((Rows.filterAllRow.lifted == Try.pinned.checked.prog.liftsFinal)) = true := by
  rw [show Rows.filterAllRow.lifted = Rows.vectorJoinsRow.lifted from rfl]
  exact liftsF
theorem fact27 : ((Try.pinned.checked.prog.make == some Rows.filterAllRow.make)) = true := by
  rw [show Rows.filterAllRow.make = Rows.vectorJoinsRow.make from rfl]
  exact makeF
theorem fact28 : ((Rows.filterAllRow.kinds == (if Rows.filterAllRow.domain.isEmpty then [] else Try.f18.params.toList.map fun t => match Try.pinned.checked.prog.underlying t with | some (.int k) => some k | _ => none))) = true := by kernel_rfl
theorem fact29 : ((Rows.filterAllRow.pinned == Rows.filterAllRow.pinnedBy)) = true := by kernel_rfl
theorem fact30 : ((Rows.filterAllRow.veiled == (Try.f18.params.toList ++ Rows.filterAllSpec.plain.varTypes Try.pinned.checked.prog ++ Try.f18.resultTypes.toList).any (Try.pinned.checked.prog.veiledRec ·))) = true := by kernel_rfl
theorem fact31 : (Rows.filterAllRow.veiledFits Try.pinned.checked.prog Try.f18.params.toList (Try.f18.params.toList ++ Rows.filterAllSpec.plain.varTypes Try.pinned.checked.prog ++ Try.f18.resultTypes.toList)) = true := by kernel_rfl
end Go.Proofs.Ytkdbjhlkahkobaa.pFilterAll
