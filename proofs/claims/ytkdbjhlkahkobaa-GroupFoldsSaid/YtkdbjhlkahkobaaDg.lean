/- controls, read -/
import Derived.Test.YtkdbjhlkahkobaaDh
import Derived.Test.YtkdbjhlkahkobaaCtl
namespace Go.Proofs.Ytkdbjhlkahkobaa
open Jal Go.RowKit Go.WideShapes
set_option maxRecDepth 100000
theorem cells56 : Try.prog.cellsOf 56 = 1 := by kernel_rfl
theorem cells57 : Try.prog.cellsOf 57 = 6 := by kernel_rfl
theorem cells59 : Try.prog.cellsOf 59 = 10 := by kernel_rfl
instance : Inhabited Ct := ⟨zeroC⟩
section
variable {H : Type} {enc : TypeId × Value → H} {w : World}
theorem decSv {cs : List Value} (h : Dec enc Try.prog w 56 cs) : ∃ s : Sv, cs = [encSv s] ∧ (s.n : Int) ≤ 9223372036854775807 := by
  obtain ⟨a, n, c, rfl⟩ := decSlice0 h Try.underlying56
  obtain ⟨h1, _⟩ := Dec.slice (α := Int) (en := fun n => [.int .u8 n]) (ok := fun _ => True) h Try.underlying56 cells5 (by decide) (fun cs h => by
    obtain ⟨n, h1, _⟩ := h.int Try.underlying5
    exact ⟨n, h1, trivial⟩)
  exact ⟨⟨a, n, c⟩, rfl, h1⟩
theorem dec59 {cs : List Value} (h : Dec enc Try.prog w 59 cs) : ∃ c, cs = encC c ∧ CtOk c := by
  obtain ⟨hl, hf⟩ := h.field Try.underlying59
  have f0 : Dec enc Try.prog w 3 ((cs.drop 0).take 1) := by have h0 : Dec enc Try.prog w 3 ((cs.drop 0).take (Try.prog.cellsOf 3)) := hf 0 _ rfl; rwa [cells3] at h0
  have f1 : Dec enc Try.prog w 3 ((cs.drop 1).take 1) := by have h0 : Dec enc Try.prog w 3 ((cs.drop 1).take (Try.prog.cellsOf 3)) := hf 1 _ rfl; rwa [cells3] at h0
  have f2 : Dec enc Try.prog w 22 ((cs.drop 2).take 1) := by have h0 : Dec enc Try.prog w 22 ((cs.drop 2).take (Try.prog.cellsOf 22)) := hf 2 _ rfl; rwa [cells22] at h0
  have f3 : Dec enc Try.prog w 57 ((cs.drop 3).take 6) := by have h0 : Dec enc Try.prog w 57 ((cs.drop 3).take (Try.prog.cellsOf 57)) := hf 3 _ rfl; rwa [cells57] at h0
  have f4 : Dec enc Try.prog w 56 ((cs.drop 9).take 1) := by have h0 : Dec enc Try.prog w 56 ((cs.drop 9).take (Try.prog.cellsOf 56)) := hf 4 _ rfl; rwa [cells56] at h0
  obtain ⟨n0, h0, w0⟩ := f0.int Try.underlying3
  obtain ⟨n1, h1, w1⟩ := f1.int Try.underlying3
  obtain ⟨n2, h2, w2⟩ := f2.int Try.underlying22
  obtain ⟨_, he⟩ := f3.elem Try.underlying57
  rw [cells56] at he
  obtain ⟨s0, g0, k0⟩ := decSv (he 0 (by omega))
  obtain ⟨s1, g1, k1⟩ := decSv (he 1 (by omega))
  obtain ⟨s2, g2, k2⟩ := decSv (he 2 (by omega))
  obtain ⟨s3, g3, k3⟩ := decSv (he 3 (by omega))
  obtain ⟨s4, g4, k4⟩ := decSv (he 4 (by omega))
  obtain ⟨s5, g5, k5⟩ := decSv (he 5 (by omega))
  obtain ⟨s6, g6, k6⟩ := decSv f4
  rw [cells59] at hl
  have hd : ∀ k, k < 6 → ((cs.drop 3).take 6 |>.drop (k * 1)).take 1 = (cs.drop (3 + k)).take 1 := fun k hk => by
    rw [Nat.mul_one, List.drop_take, List.drop_drop, List.take_take]
    congr 1
    omega
  rw [hd 0 (by omega)] at g0
  rw [hd 1 (by omega)] at g1
  rw [hd 2 (by omega)] at g2
  rw [hd 3 (by omega)] at g3
  rw [hd 4 (by omega)] at g4
  rw [hd 5 (by omega)] at g5
  refine ⟨⟨n0, n1, n2, fun i => match i with | 0 => s0 | 1 => s1 | 2 => s2 | 3 => s3 | 4 => s4 | _ => s5, s6⟩, ?_, ⟨wf_i64 w0, wf_i64 w1, wf_u64 w2, fun i hi => by rcases six hi with rfl | rfl | rfl | rfl | rfl | rfl <;> assumption, k6⟩⟩
  show cs.drop 0 = _
  rw [splitAt h0, splitAt h1, splitAt h2, splitAt g0, splitAt g1, splitAt g2, splitAt g3, splitAt g4, splitAt g5, splitAt g6, List.drop_eq_nil_of_le (by omega)]
  rfl
end
end Go.Proofs.Ytkdbjhlkahkobaa
