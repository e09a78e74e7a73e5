/- several texts of ours, joined: Dr, Dt, Df -/
import Derived.Test.YtkdbjhlkahkobaaZi
import Derived.Test.YtkdbjhlkahkobaaZe
import Derived.Test.YtkdbjhlkahkobaaZh
/- rows, read -/
namespace Go.Proofs.Ytkdbjhlkahkobaa
open Jal Go.RowKit Go.WideShapes
set_option maxRecDepth 100000
theorem cells9 : Try.prog.cellsOf 9 = 1 := by kernel_rfl
theorem cells75 : Try.prog.cellsOf 75 = 1 := by kernel_rfl
theorem cells77 : Try.prog.cellsOf 77 = 4 := by kernel_rfl
theorem cells79 : Try.prog.cellsOf 79 = 130 := by kernel_rfl
instance : Inhabited Rw := ⟨rz⟩
section
variable {H : Type} {enc : TypeId × Value → H} {w : World}
theorem dec77 {cs : List Value} (h : Dec enc Try.prog w 77 cs) : ∃ c, cs = encCh c ∧ ChIn w c ∧ ChOk c := by
  obtain ⟨hl, hf⟩ := h.field Try.underlying77
  have f0 : Dec enc Try.prog w 3 ((cs.drop 0).take 1) := by have h0 : Dec enc Try.prog w 3 ((cs.drop 0).take (Try.prog.cellsOf 3)) := hf 0 _ rfl; rwa [cells3] at h0
  have f1 : Dec enc Try.prog w 9 ((cs.drop 1).take 1) := by have h0 : Dec enc Try.prog w 9 ((cs.drop 1).take (Try.prog.cellsOf 9)) := hf 1 _ rfl; rwa [cells9] at h0
  have f2 : Dec enc Try.prog w 75 ((cs.drop 2).take 1) := by have h0 : Dec enc Try.prog w 75 ((cs.drop 2).take (Try.prog.cellsOf 75)) := hf 2 _ rfl; rwa [cells75] at h0
  have f3 : Dec enc Try.prog w 9 ((cs.drop 3).take 1) := by have h0 : Dec enc Try.prog w 9 ((cs.drop 3).take (Try.prog.cellsOf 9)) := hf 3 _ rfl; rwa [cells9] at h0
  obtain ⟨n0, h0, w0⟩ := f0.int Try.underlying3
  obtain ⟨n1, h1, w1⟩ := f1.str Try.underlying9
  obtain ⟨a, n, c, h2⟩ := decSlice0 f2 Try.underlying75
  rw [h2] at f2
  obtain ⟨k2, f, s2, t2⟩ := Dec.slice (α := ByteArray) (en := encT) (ok := fun s => s.size ≤ maxLen) f2 Try.underlying75 cells9 (by decide) (fun cs h => by
    obtain ⟨s, g1, g2⟩ := h.str Try.underlying9
    exact ⟨s, g1, g2⟩)
  obtain ⟨n3, h3, w3⟩ := f3.str Try.underlying9
  rw [cells77] at hl
  refine ⟨⟨n0, n1, a, n, c, f, n3⟩, ?_, s2, ⟨wf_i64 w0, k2, w1, w3, t2⟩⟩
  show cs.drop 0 = _
  rw [splitAt h0, splitAt h1, splitAt h2, splitAt h3, List.drop_eq_nil_of_le (by omega)]
  rfl
theorem dec79 {cs : List Value} (h : Dec enc Try.prog w 79 cs) : ∃ r, cs = encR r ∧ RwIn w r ∧ RwOk r := by
  obtain ⟨hl, hf⟩ := h.field Try.underlying79
  have f0 : Dec enc Try.prog w 37 ((cs.drop 0).take 125) := by have h0 : Dec enc Try.prog w 37 ((cs.drop 0).take (Try.prog.cellsOf 37)) := hf 0 _ rfl; rwa [cells37] at h0
  have f1 : Dec enc Try.prog w 4 ((cs.drop 125).take 1) := by have h0 : Dec enc Try.prog w 4 ((cs.drop 125).take (Try.prog.cellsOf 4)) := hf 1 _ rfl; rwa [cells4] at h0
  have f2 : Dec enc Try.prog w 77 ((cs.drop 126).take 4) := by have h0 : Dec enc Try.prog w 77 ((cs.drop 126).take (Try.prog.cellsOf 77)) := hf 2 _ rfl; rwa [cells77] at h0
  obtain ⟨hd, h0, i0, k0⟩ := dec37 f0
  obtain ⟨b, h1⟩ := f1.bool Try.underlying4
  obtain ⟨ch, h2, i2, k2⟩ := dec77 f2
  rw [cells79] at hl
  refine ⟨⟨hd, b, ch⟩, ?_, ⟨i0, i2⟩, ⟨k0, k2⟩⟩
  have e0 : cs = cs.take 125 ++ ((cs.drop 125).take 1 ++ (cs.drop 126).take 4) := by
    apply List.ext_getElem?
    intro i
    simp only [List.getElem?_append, List.getElem?_take, List.getElem?_drop, List.length_take, List.length_drop, hl]
    by_cases g1 : i < 125
    · simp [g1]
    · by_cases g2 : i < 126
      · simp [g1, show i - 125 < 1 by omega, show 125 + (i - 125) = i by omega]
      · by_cases g3 : i < 130
        · simp [g1, show ¬ i - 125 < 1 by omega, show i - 125 - 1 < 4 by omega, show 126 + (i - 125 - 1) = i by omega]
        · rw [List.getElem?_eq_none (by omega)]
          simp [g1, show ¬ i - 125 < 1 by omega, show ¬ i - 125 - 1 < 4 by omega]
  rw [List.drop_zero] at h0
  rw [e0, h0, h1, h2]
  rfl
theorem open79 {base : Nat} {v : Value} (h : Value.okWide Try.prog w .any base 79 v) (e : Dec enc Try.prog w 79 v.cells.toList) :
    ∃ r, v = .agg (encR r).toArray ∧ RwIn w r ∧ RwOk r := by
  obtain ⟨cs, rfl, _⟩ := okWide_struct Try.underlying79 h
  obtain ⟨f, h1, h2⟩ := dec79 e
  refine ⟨f, ?_, h2⟩
  have : cs.toList = encR f := h1
  rw [← this]
end
end Go.Proofs.Ytkdbjhlkahkobaa
/- tokens, read -/
namespace Go.Proofs.Ytkdbjhlkahkobaa
open Jal Go.RowKit Go.WideShapes
set_option maxRecDepth 100000
theorem open34 {H : Type} {enc : TypeId × Value → H} {w : World} {base : Nat} {v : Value} (h : Value.okWide Try.prog w .any base 34 v) (e : Dec enc Try.prog w 34 v.cells.toList) :
    ∃ f, v = .agg (arr .u8 16 f).toArray ∧ ∀ i, i < 16 → 0 ≤ f i ∧ f i ≤ 255 := by
  obtain ⟨cs, rfl⟩ := okWide_array Try.underlying34 h
  obtain ⟨f, h1, h2⟩ := e.arr Try.underlying34 Try.underlying5 cells5 cells34
  refine ⟨f, ?_, fun i hi => wf_u8 (h2 i hi)⟩
  have : cs.toList = arr .u8 16 f := h1
  rw [← this]
end Go.Proofs.Ytkdbjhlkahkobaa
/- filters, read -/
namespace Go.Proofs.Ytkdbjhlkahkobaa
open Jal Go.RowKit Go.WideShapes
set_option maxRecDepth 100000
theorem cells96 : Try.prog.cellsOf 96 = 2 := by kernel_rfl
section
variable {H : Type} {enc : TypeId × Value → H} {w : World}
theorem dec96 {cs : List Value} (h : Dec enc Try.prog w 96 cs) : ∃ f, cs = encF f ∧ FlIn w f ∧ (f.fn : Int) ≤ 9223372036854775807 := by
  obtain ⟨hl, hf⟩ := h.field Try.underlying96
  have f0 : Dec enc Try.prog w 4 ((cs.drop 0).take 1) := by have h0 : Dec enc Try.prog w 4 ((cs.drop 0).take (Try.prog.cellsOf 4)) := hf 0 _ rfl; rwa [cells4] at h0
  have f1 : Dec enc Try.prog w 75 ((cs.drop 1).take 1) := by have h0 : Dec enc Try.prog w 75 ((cs.drop 1).take (Try.prog.cellsOf 75)) := hf 1 _ rfl; rwa [cells75] at h0
  obtain ⟨n0, h0⟩ := f0.bool Try.underlying4
  obtain ⟨a, n, c, h1⟩ := decSlice0 f1 Try.underlying75
  rw [h1] at f1
  obtain ⟨k1, f, s1, t1⟩ := Dec.slice (α := ByteArray) (en := encT) (ok := fun s => s.size ≤ maxLen) f1 Try.underlying75 cells9 (by decide) (fun cs h => by
    obtain ⟨s, g1, g2⟩ := h.str Try.underlying9
    exact ⟨s, g1, g2⟩)
  rw [cells96] at hl
  refine ⟨⟨n0, a, n, c, f⟩, ?_, s1, k1⟩
  show cs.drop 0 = _
  rw [splitAt h0, splitAt h1, List.drop_eq_nil_of_le (by omega)]
  rfl
theorem open96 {base : Nat} {v : Value} (h : Value.okWide Try.prog w .any base 96 v) (e : Dec enc Try.prog w 96 v.cells.toList) : ∃ f, v = .agg (encF f).toArray ∧ FlIn w f ∧ (f.fn : Int) ≤ 9223372036854775807 := by
  obtain ⟨cs, rfl, _⟩ := okWide_struct Try.underlying96 h
  obtain ⟨f, h1, h2⟩ := dec96 e
  refine ⟨f, ?_, h2⟩
  have : cs.toList = encF f := h1
  rw [← this]
end
end Go.Proofs.Ytkdbjhlkahkobaa
