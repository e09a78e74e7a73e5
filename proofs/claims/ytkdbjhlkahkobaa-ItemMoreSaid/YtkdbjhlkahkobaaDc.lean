/- steps, read -/
import Derived.Test.YtkdbjhlkahkobaaProg
import Derived.Test.YtkdbjhlkahkobaaDec
import Derived.KernelRfl
namespace Go.Proofs.Ytkdbjhlkahkobaa
open Jal Go.RowKit
theorem cells3 : Try.prog.cellsOf 3 = 1 := by kernel_rfl
theorem cells4 : Try.prog.cellsOf 4 = 1 := by kernel_rfl
theorem cells5 : Try.prog.cellsOf 5 = 1 := by kernel_rfl
theorem cells22 : Try.prog.cellsOf 22 = 1 := by kernel_rfl
theorem cells45 : Try.prog.cellsOf 45 = 4 := by kernel_rfl
instance : Inhabited Stp := ⟨⟨0, 0, 0, 0⟩⟩
section
variable {H : Type} {enc : TypeId × Value → H} {w : World}
theorem dec45 {cs : List Value} (h : Dec enc Try.prog w 45 cs) : ∃ s, cs = encS s ∧ StpOk s := by
  obtain ⟨hl, hf⟩ := h.field Try.underlying45
  have f0 : Dec enc Try.prog w 3 ((cs.drop 0).take 1) := by have h0 : Dec enc Try.prog w 3 ((cs.drop 0).take (Try.prog.cellsOf 3)) := hf 0 _ rfl; rwa [cells3] at h0
  have f1 : Dec enc Try.prog w 3 ((cs.drop 1).take 1) := by have h0 : Dec enc Try.prog w 3 ((cs.drop 1).take (Try.prog.cellsOf 3)) := hf 1 _ rfl; rwa [cells3] at h0
  have f2 : Dec enc Try.prog w 3 ((cs.drop 2).take 1) := by have h0 : Dec enc Try.prog w 3 ((cs.drop 2).take (Try.prog.cellsOf 3)) := hf 2 _ rfl; rwa [cells3] at h0
  have f3 : Dec enc Try.prog w 22 ((cs.drop 3).take 1) := by have h0 : Dec enc Try.prog w 22 ((cs.drop 3).take (Try.prog.cellsOf 22)) := hf 3 _ rfl; rwa [cells22] at h0
  obtain ⟨n0, h0, w0⟩ := f0.int Try.underlying3
  obtain ⟨n1, h1, w1⟩ := f1.int Try.underlying3
  obtain ⟨n2, h2, w2⟩ := f2.int Try.underlying3
  obtain ⟨n3, h3, w3⟩ := f3.int Try.underlying22
  rw [cells45] at hl
  refine ⟨⟨n0, n1, n2, n3⟩, ?_, ⟨wf_i64 w0, wf_i64 w1, wf_i64 w2, wf_u64 w3⟩⟩
  show cs.drop 0 = _
  rw [splitAt h0, splitAt h1, splitAt h2, splitAt h3, List.drop_eq_nil_of_le (by omega)]
  rfl
end
end Go.Proofs.Ytkdbjhlkahkobaa
