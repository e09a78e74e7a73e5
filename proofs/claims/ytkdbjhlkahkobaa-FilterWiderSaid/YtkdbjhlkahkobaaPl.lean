/- a closed fact of the whole program, by program: it is slow and large, so it stands alone -/
import Derived.Test.YtkdbjhlkahkobaaRows
import Derived.ProofKit
namespace Go.Proofs.Ytkdbjhlkahkobaa
open Go
theorem liftsF : ((Rows.vectorJoinsRow.lifted == Try.pinned.checked.prog.liftsFinal)) = true := by kernel_rfl
end Go.Proofs.Ytkdbjhlkahkobaa
