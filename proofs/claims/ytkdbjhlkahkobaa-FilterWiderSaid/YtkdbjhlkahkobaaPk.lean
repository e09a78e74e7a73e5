/- a closed fact of the whole program, by program: it is slow and large, so it stands alone -/
import Derived.Test.YtkdbjhlkahkobaaRows
import Derived.ProofKit
namespace Go.Proofs.Ytkdbjhlkahkobaa
open Go
theorem makeF : ((Try.pinned.checked.prog.make == some Rows.vectorJoinsRow.make)) = true := by kernel_rfl
end Go.Proofs.Ytkdbjhlkahkobaa
