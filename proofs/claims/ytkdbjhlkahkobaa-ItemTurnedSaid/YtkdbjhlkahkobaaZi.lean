/- several texts of ours, joined: Dh, Dr -/
import Derived.Test.YtkdbjhlkahkobaaZh
import Derived.Test.YtkdbjhlkahkobaaZc
import Derived.Test.YtkdbjhlkahkobaaZe
/- headers, read -/
namespace Go.Proofs.Ytkdbjhlkahkobaa
open Jal Go.RowKit Go.WideShapes
set_option maxRecDepth 100000
instance : Inhabited Hd := ⟨⟨0, 0, fun _ => 0, 0, false, 0, fun _ => 0, none, 0, 0, fun _ _ => 0, fun _ => 0, fun _ => 0, 0, fun _ => 0⟩⟩
theorem cells32 : Try.prog.cellsOf 32 = 32 := by kernel_rfl
theorem cells34 : Try.prog.cellsOf 34 = 16 := by kernel_rfl
theorem cells35 : Try.prog.cellsOf 35 = 1 := by kernel_rfl
theorem cells23 : Try.prog.cellsOf 23 = 6 := by kernel_rfl
theorem cells37 : Try.prog.cellsOf 37 = 125 := by kernel_rfl
section
variable {H : Type} {enc : TypeId × Value → H} {w : World}
theorem decSlice0 {P : Program} {t e : TypeId} {cs : List Value} (h : Dec enc P w t cs) (ht : P.underlying t = some (.slice e)) : ∃ a n c, cs = [.slice a n c] := by
  obtain ⟨fu, x, h⟩ := h
  rcases Go.Deep.open_slice ht h with ⟨hcs, _⟩ | ⟨ad, len, cap, m, f, D, Pl, hcs, _⟩
  · exact ⟨_, _, _, hcs⟩
  · exact ⟨_, _, _, hcs⟩
theorem decToks {t e : TypeId} {cs : List Value} (h : Dec enc Try.prog w t cs) (ht : Try.prog.underlying t = some (.slice e)) (he : Try.prog.underlying e = some (.array 16 5)) (hc : Try.prog.cellsOf e = 16) :
    ∃ (a : Option Addr) (n c : Nat) (f : Nat → Nat → Int), cs = [.slice a n c] ∧ (n : Int) ≤ 9223372036854775807 ∧ Sl w a n 16 (fun i => arr .u8 16 (f i)) ∧ ∀ i, i < n → ∀ j, j < 16 → 0 ≤ f i j ∧ f i j ≤ 255 := by
  obtain ⟨a, n, c, rfl⟩ := decSlice0 h ht
  obtain ⟨h1, f, h2, h3⟩ := Dec.slice (α := Nat → Int) (en := fun f => arr .u8 16 f) (ok := fun f => ∀ j, j < 16 → 0 ≤ f j ∧ f j ≤ 255) h ht hc (by decide) (fun cs h => by
    obtain ⟨f, h1, h2⟩ := h.arr he Try.underlying5 cells5 hc
    exact ⟨f, h1, fun j hj => wf_u8 (h2 j hj)⟩)
  exact ⟨a, n, c, f, rfl, h1, h2, h3⟩
theorem dec37 {cs : List Value} (h : Dec enc Try.prog w 37 cs) : ∃ h, cs = encH h ∧ HdIn w h ∧ HdOk h := by
  obtain ⟨hl, hf⟩ := h.field Try.underlying37
  have f0 : Dec enc Try.prog w 3 ((cs.drop 0).take 1) := by have h0 : Dec enc Try.prog w 3 ((cs.drop 0).take (Try.prog.cellsOf 3)) := hf 0 _ rfl; rwa [cells3] at h0
  have f1 : Dec enc Try.prog w 22 ((cs.drop 1).take 1) := by have h0 : Dec enc Try.prog w 22 ((cs.drop 1).take (Try.prog.cellsOf 22)) := hf 1 _ rfl; rwa [cells22] at h0
  have f2 : Dec enc Try.prog w 32 ((cs.drop 2).take 32) := by have h0 : Dec enc Try.prog w 32 ((cs.drop 2).take (Try.prog.cellsOf 32)) := hf 2 _ rfl; rwa [cells32] at h0
  have f3 : Dec enc Try.prog w 3 ((cs.drop 34).take 1) := by have h0 : Dec enc Try.prog w 3 ((cs.drop 34).take (Try.prog.cellsOf 3)) := hf 3 _ rfl; rwa [cells3] at h0
  have f4 : Dec enc Try.prog w 4 ((cs.drop 35).take 1) := by have h0 : Dec enc Try.prog w 4 ((cs.drop 35).take (Try.prog.cellsOf 4)) := hf 4 _ rfl; rwa [cells4] at h0
  have f5 : Dec enc Try.prog w 22 ((cs.drop 36).take 1) := by have h0 : Dec enc Try.prog w 22 ((cs.drop 36).take (Try.prog.cellsOf 22)) := hf 5 _ rfl; rwa [cells22] at h0
  have f6 : Dec enc Try.prog w 34 ((cs.drop 37).take 16) := by have h0 : Dec enc Try.prog w 34 ((cs.drop 37).take (Try.prog.cellsOf 34)) := hf 6 _ rfl; rwa [cells34] at h0
  have f7 : Dec enc Try.prog w 35 ((cs.drop 53).take 1) := by have h0 : Dec enc Try.prog w 35 ((cs.drop 53).take (Try.prog.cellsOf 35)) := hf 7 _ rfl; rwa [cells35] at h0
  have f8 : Dec enc Try.prog w 23 ((cs.drop 54).take 6) := by have h0 : Dec enc Try.prog w 23 ((cs.drop 54).take (Try.prog.cellsOf 23)) := hf 8 _ rfl; rwa [cells23] at h0
  have f9 : Dec enc Try.prog w 32 ((cs.drop 60).take 32) := by have h0 : Dec enc Try.prog w 32 ((cs.drop 60).take (Try.prog.cellsOf 32)) := hf 9 _ rfl; rwa [cells32] at h0
  have f10 : Dec enc Try.prog w 3 ((cs.drop 92).take 1) := by have h0 : Dec enc Try.prog w 3 ((cs.drop 92).take (Try.prog.cellsOf 3)) := hf 10 _ rfl; rwa [cells3] at h0
  have f11 : Dec enc Try.prog w 32 ((cs.drop 93).take 32) := by have h0 : Dec enc Try.prog w 32 ((cs.drop 93).take (Try.prog.cellsOf 32)) := hf 11 _ rfl; rwa [cells32] at h0
  obtain ⟨n0, h0, w0⟩ := f0.int Try.underlying3
  obtain ⟨n1, h1, w1⟩ := f1.int Try.underlying22
  obtain ⟨n2, h2, w2⟩ := f2.arr Try.underlying32 Try.underlying5 cells5 cells32
  obtain ⟨n3, h3, w3⟩ := f3.int Try.underlying3
  obtain ⟨n4, h4⟩ := f4.bool Try.underlying4
  obtain ⟨n5, h5, w5⟩ := f5.int Try.underlying22
  obtain ⟨n6, h6, w6⟩ := f6.arr Try.underlying34 Try.underlying5 cells5 cells34
  obtain ⟨a, n, c, f, h7, w7, s7, t7⟩ := decToks f7 Try.underlying35 Try.underlying34 cells34
  obtain ⟨n8, h8, w8⟩ := f8.arr Try.underlying23 Try.underlying22 cells22 cells23
  obtain ⟨n9, h9, w9⟩ := f9.arr Try.underlying32 Try.underlying5 cells5 cells32
  obtain ⟨n10, h10, w10⟩ := f10.int Try.underlying3
  obtain ⟨n11, h11, w11⟩ := f11.arr Try.underlying32 Try.underlying5 cells5 cells32
  rw [cells37] at hl
  refine ⟨⟨n0, n1, n2, n3, n4, n5, n6, a, n, c, f, n8, n9, n10, n11⟩, ?_, s7, ⟨wf_i64 w0, wf_u64 w1, wf_i64 w3, wf_u64 w5, w7, fun i hi => wf_u64 (w8 i hi), wf_i64 w10, t7, fun i hi => wf_u8 (w6 i hi), fun i hi => wf_u8 (w2 i hi), fun i hi => wf_u8 (w9 i hi), fun i hi => wf_u8 (w11 i hi)⟩⟩
  show cs.drop 0 = _
  rw [splitAt h0, splitAt h1, splitAt h2, splitAt h3, splitAt h4, splitAt h5, splitAt h6, splitAt h7, splitAt h8, splitAt h9, splitAt h10, splitAt h11, List.drop_eq_nil_of_le (by omega)]
  simp only [encH, List.append_nil, List.singleton_append, List.cons_append, List.nil_append]
theorem open37 {base : Nat} {v : Value} (h : Value.okWide Try.prog w .any base 37 v) (e : Dec enc Try.prog w 37 v.cells.toList) :
    ∃ h, v = .agg (encH h).toArray ∧ HdIn w h ∧ HdOk h := by
  obtain ⟨cs, rfl, _⟩ := okWide_struct Try.underlying37 h
  obtain ⟨f, h1, h2⟩ := dec37 e
  refine ⟨f, ?_, h2⟩
  have : cs.toList = encH f := h1
  rw [← this]
end
end Go.Proofs.Ytkdbjhlkahkobaa
/- rows, read -/
namespace Go.Proofs.Ytkdbjhlkahkobaa
open Jal Go.RowKit Go.WideShapes
set_option maxRecDepth 100000
theorem cells9 : Try.prog.cellsOf 9 = 1 := by kernel_rfl
theorem cells75 : Try.prog.cellsOf 75 = 1 := by kernel_rfl
theorem cells77 : Try.prog.cellsOf 77 = 4 := by kernel_rfl
theorem cells79 : Try.prog.cellsOf 79 = 130 := by kernel_rfl
instance : Inhabited Rw := ⟨rz⟩
section
variable {H : Type} {enc : TypeId × Value → H} {w : World}
theorem dec77 {cs : List Value} (h : Dec enc Try.prog w 77 cs) : ∃ c, cs = encCh c ∧ ChIn w c ∧ ChOk c := by
  obtain ⟨hl, hf⟩ := h.field Try.underlying77
  have f0 : Dec enc Try.prog w 3 ((cs.drop 0).take 1) := by have h0 : Dec enc Try.prog w 3 ((cs.drop 0).take (Try.prog.cellsOf 3)) := hf 0 _ rfl; rwa [cells3] at h0
  have f1 : Dec enc Try.prog w 9 ((cs.drop 1).take 1) := by have h0 : Dec enc Try.prog w 9 ((cs.drop 1).take (Try.prog.cellsOf 9)) := hf 1 _ rfl; rwa [cells9] at h0
  have f2 : Dec enc Try.prog w 75 ((cs.drop 2).take 1) := by have h0 : Dec enc Try.prog w 75 ((cs.drop 2).take (Try.prog.cellsOf 75)) := hf 2 _ rfl; rwa [cells75] at h0
  have f3 : Dec enc Try.prog w 9 ((cs.drop 3).take 1) := by have h0 : Dec enc Try.prog w 9 ((cs.drop 3).take (Try.prog.cellsOf 9)) := hf 3 _ rfl; rwa [cells9] at h0
  obtain ⟨n0, h0, w0⟩ := f0.int Try.underlying3
  obtain ⟨n1, h1, w1⟩ := f1.str Try.underlying9
  obtain ⟨a, n, c, h2⟩ := decSlice0 f2 Try.underlying75
  rw [h2] at f2
  obtain ⟨k2, f, s2, t2⟩ := Dec.slice (α := ByteArray) (en := encT) (ok := fun s => s.size ≤ maxLen) f2 Try.underlying75 cells9 (by decide) (fun cs h => by
    obtain ⟨s, g1, g2⟩ := h.str Try.underlying9
    exact ⟨s, g1, g2⟩)
  obtain ⟨n3, h3, w3⟩ := f3.str Try.underlying9
  rw [cells77] at hl
  refine ⟨⟨n0, n1, a, n, c, f, n3⟩, ?_, s2, ⟨wf_i64 w0, k2, w1, w3, t2⟩⟩
  show cs.drop 0 = _
  rw [splitAt h0, splitAt h1, splitAt h2, splitAt h3, List.drop_eq_nil_of_le (by omega)]
  rfl
theorem dec79 {cs : List Value} (h : Dec enc Try.prog w 79 cs) : ∃ r, cs = encR r ∧ RwIn w r ∧ RwOk r := by
  obtain ⟨hl, hf⟩ := h.field Try.underlying79
  have f0 : Dec enc Try.prog w 37 ((cs.drop 0).take 125) := by have h0 : Dec enc Try.prog w 37 ((cs.drop 0).take (Try.prog.cellsOf 37)) := hf 0 _ rfl; rwa [cells37] at h0
  have f1 : Dec enc Try.prog w 4 ((cs.drop 125).take 1) := by have h0 : Dec enc Try.prog w 4 ((cs.drop 125).take (Try.prog.cellsOf 4)) := hf 1 _ rfl; rwa [cells4] at h0
  have f2 : Dec enc Try.prog w 77 ((cs.drop 126).take 4) := by have h0 : Dec enc Try.prog w 77 ((cs.drop 126).take (Try.prog.cellsOf 77)) := hf 2 _ rfl; rwa [cells77] at h0
  obtain ⟨hd, h0, i0, k0⟩ := dec37 f0
  obtain ⟨b, h1⟩ := f1.bool Try.underlying4
  obtain ⟨ch, h2, i2, k2⟩ := dec77 f2
  rw [cells79] at hl
  refine ⟨⟨hd, b, ch⟩, ?_, ⟨i0, i2⟩, ⟨k0, k2⟩⟩
  have e0 : cs = cs.take 125 ++ ((cs.drop 125).take 1 ++ (cs.drop 126).take 4) := by
    apply List.ext_getElem?
    intro i
    simp only [List.getElem?_append, List.getElem?_take, List.getElem?_drop, List.length_take, List.length_drop, hl]
    by_cases g1 : i < 125
    · simp [g1]
    · by_cases g2 : i < 126
      · simp [g1, show i - 125 < 1 by omega, show 125 + (i - 125) = i by omega]
      · by_cases g3 : i < 130
        · simp [g1, show ¬ i - 125 < 1 by omega, show i - 125 - 1 < 4 by omega, show 126 + (i - 125 - 1) = i by omega]
        · rw [List.getElem?_eq_none (by omega)]
          simp [g1, show ¬ i - 125 < 1 by omega, show ¬ i - 125 - 1 < 4 by omega]
  rw [List.drop_zero] at h0
  rw [e0, h0, h1, h2]
  rfl
theorem open79 {base : Nat} {v : Value} (h : Value.okWide Try.prog w .any base 79 v) (e : Dec enc Try.prog w 79 v.cells.toList) :
    ∃ r, v = .agg (encR r).toArray ∧ RwIn w r ∧ RwOk r := by
  obtain ⟨cs, rfl, _⟩ := okWide_struct Try.underlying79 h
  obtain ⟨f, h1, h2⟩ := dec79 e
  refine ⟨f, ?_, h2⟩
  have : cs.toList = encR f := h1
  rw [← this]
end
end Go.Proofs.Ytkdbjhlkahkobaa
