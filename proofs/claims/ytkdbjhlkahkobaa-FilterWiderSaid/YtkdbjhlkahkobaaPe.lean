/- a closed fact of the whole program, by program: it is slow and large, so it stands alone -/
import Derived.Test.YtkdbjhlkahkobaaRows
import Derived.ProofKit
namespace Go.Proofs.Ytkdbjhlkahkobaa
open Go
theorem mayE : (Try.pinned.checked.prog.mayEnter) = true := by kernel_rfl
end Go.Proofs.Ytkdbjhlkahkobaa
