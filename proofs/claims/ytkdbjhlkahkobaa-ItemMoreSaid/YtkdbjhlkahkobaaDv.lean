/- vectors, read -/
import Derived.Test.YtkdbjhlkahkobaaDc
import Derived.Test.YtkdbjhlkahkobaaVec
import Derived.WideShapes
namespace Go.Proofs.Ytkdbjhlkahkobaa
open Jal Go.RowKit Go.WideShapes
set_option maxRecDepth 100000
theorem okWide_array {P : Program} {w : World} {r : Reach} {base : Nat} {t e : TypeId} {n : Nat} {v : Value} (ht : P.underlying t = some (.array n e)) (h : Value.okWide P w r base t v) : ∃ cs, v = .agg cs := by
  simp only [Value.okWide, ht] at h
  obtain ⟨cs, h1, _⟩ := h
  exact ⟨cs, h1⟩
theorem cells24 : Try.prog.cellsOf 24 = 6 := by kernel_rfl
theorem open24 {H : Type} {enc : TypeId × Value → H} {w : World} {base : Nat} {v : Value} (h : Value.okWide Try.prog w .any base 24 v) (e : Dec enc Try.prog w 24 v.cells.toList) :
    ∃ f, v = .agg (encV f).toArray ∧ ∀ i, i < 6 → U64 (f i) := by
  obtain ⟨cs, rfl⟩ := okWide_array Try.underlying24 h
  obtain ⟨f, h1, h2⟩ := e.arr Try.underlying24 Try.underlying22 cells22 cells24
  refine ⟨f, ?_, fun i hi => wf_u64 (h2 i hi)⟩
  have : cs.toList = encV f := h1
  rw [← this]
end Go.Proofs.Ytkdbjhlkahkobaa
