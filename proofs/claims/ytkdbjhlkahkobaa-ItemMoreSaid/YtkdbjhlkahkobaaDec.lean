/- what an argument that reads as data looks like in memory -/
import Derived.Test.YtkdbjhlkahkobaaDef
import Derived.ProofKit
import Derived.OpenShut
import Derived.Deep.Slices
import Derived.ShutString
import Derived.ChangeOld
import Derived.Carry
namespace Jal
open Go Go.RowKit Go.ChangeShapes Go.WideShapes Go.ChangeAt
section
variable {H : Type} {enc : TypeId × Value → H} {P : Program} {w : World}
/-- cells that read as data of a type -/
def Dec (enc : TypeId × Value → H) (P : Program) (w : World) (t : TypeId) (cs : List Value) : Prop := ∃ fuel x, DataW.trod enc P w 0 (fun _ => true) true fuel t cs = some x
theorem Dec.of_trod {t : TypeId} {v : Value} {d : DataW H} {ps : List MemPlace} (h : DataW.Trod enc P w 0 (fun _ => true) true t v d ps) : Dec enc P w t v.cells.toList := by
  obtain ⟨f, hf⟩ := h; exact ⟨f, _, hf⟩
theorem wf_i64 {n : Int} (h : (Lit.int .i64 n).wf = true) : I64 n := by simpa [Lit.wf, IntKind.min, IntKind.max, IntKind.signed, IntKind.bits, I64] using h
theorem wf_u64 {n : Int} (h : (Lit.int .u64 n).wf = true) : U64 n := by simpa [Lit.wf, IntKind.min, IntKind.max, IntKind.signed, IntKind.bits, U64] using h
def U8 (n : Int) : Prop := 0 ≤ n ∧ n ≤ 255
theorem wf_u8 {n : Int} (h : (Lit.int .u8 n).wf = true) : U8 n := by simpa [Lit.wf, IntKind.min, IntKind.max, IntKind.signed, IntKind.bits, U8] using h
theorem Dec.int {t : TypeId} {cs : List Value} {k : IntKind} (h : Dec enc P w t cs) (ht : P.underlying t = some (.int k)) : ∃ n, cs = [.int k n] ∧ (Lit.int k n).wf = true := by
  obtain ⟨f, x, h⟩ := h
  obtain ⟨n, h1, _, h2⟩ := DataW.trod_int ht h
  exact ⟨n, h1, h2⟩
theorem Dec.bool {t : TypeId} {cs : List Value} (h : Dec enc P w t cs) (ht : P.underlying t = some .bool) : ∃ b, cs = [.bool b] := by
  obtain ⟨f, x, h⟩ := h
  obtain ⟨n, h1, _⟩ := DataW.trod_bool ht h
  exact ⟨n, h1⟩
theorem Dec.str {t : TypeId} {cs : List Value} (h : Dec enc P w t cs) (ht : P.underlying t = some .string) : ∃ s : ByteArray, cs = [.string s] ∧ s.size ≤ maxLen := by
  obtain ⟨f, x, h⟩ := h
  obtain ⟨n, h1, _, h2⟩ := DataW.trod_string ht h
  exact ⟨n, h1, h2⟩
theorem Dec.field {t : TypeId} {cs : List Value} {fs : Array Field} (h : Dec enc P w t cs) (ht : P.underlying t = some (.struct fs)) :
    cs.length = P.cellsOf t ∧ ∀ (i : Nat) (f : Field), fs[i]? = some f → Dec enc P w f.type ((cs.drop f.offset).take (P.cellsOf f.type)) := by
  obtain ⟨fu, x, h⟩ := h
  obtain ⟨xs, n, rfl, _, hl, hxl, hx⟩ := DataW.trod_struct ht h
  refine ⟨hl, fun i f hf => ?_⟩
  have := hx i f hf
  have hi : i < xs.length := by rw [hxl]; exact (Array.getElem?_eq_some_iff.1 hf).1
  rw [List.getElem?_eq_getElem hi] at this
  exact ⟨n, _, this⟩
theorem Dec.elem {t e : TypeId} {cs : List Value} {n : Nat} (h : Dec enc P w t cs) (ht : P.underlying t = some (.array n e)) :
    cs.length = P.cellsOf t ∧ ∀ i, i < n → Dec enc P w e ((cs.drop (i * P.cellsOf e)).take (P.cellsOf e)) := by
  obtain ⟨fu, x, h⟩ := h
  obtain ⟨xs, m, rfl, _, hl, hxl, hx⟩ := DataW.trod_array ht h
  refine ⟨hl, fun i hi => ?_⟩
  have := hx i hi
  rw [List.getElem?_eq_getElem (by omega)] at this
  exact ⟨m, _, this⟩
/-- an array of numbers -/
theorem Dec.arr {t e : TypeId} {cs : List Value} {n : Nat} {k : IntKind} (h : Dec enc P w t cs) (ht : P.underlying t = some (.array n e)) (he : P.underlying e = some (.int k)) (hc : P.cellsOf e = 1) (hl : P.cellsOf t = n) :
    ∃ f, cs = Jal.arr k n f ∧ ∀ i, i < n → (Lit.int k (f i)).wf = true := by
  obtain ⟨h1, h2⟩ := h.elem ht
  rw [hc] at h2
  obtain ⟨f, hf⟩ := Go.Deep.choose_lt (α := Int) (p := fun i m => (cs.drop (i * 1)).take 1 = [.int k m] ∧ (Lit.int k m).wf = true) (fun i hi => by
    obtain ⟨m, h3, h4⟩ := (h2 i hi).int he; exact ⟨m, h3, h4⟩)
  refine ⟨f, ?_, fun i hi => (hf i hi).2⟩
  apply List.ext_getElem?
  intro i
  unfold Jal.arr
  by_cases hi : i < n
  · have h3 := (hf i hi).1
    have h4 : (List.take 1 (List.drop (i * 1) cs))[0]? = some (.int k (f i)) := by rw [h3]; rfl
    rw [List.getElem?_take, if_pos (by omega), List.getElem?_drop, Nat.mul_one, Nat.add_zero] at h4
    rw [h4, List.getElem?_map, List.getElem?_range hi]; rfl
  · rw [List.getElem?_eq_none (by omega), List.getElem?_eq_none (by simpa using hi)]
theorem Dec.barr {t e : TypeId} {cs : List Value} {n : Nat} (h : Dec enc P w t cs) (ht : P.underlying t = some (.array n e)) (he : P.underlying e = some .bool) (hc : P.cellsOf e = 1) (hl : P.cellsOf t = n) :
    ∃ f, cs = Jal.barr n f := by
  obtain ⟨h1, h2⟩ := h.elem ht
  rw [hc] at h2
  obtain ⟨f, hf⟩ := Go.Deep.choose_lt (α := Bool) (p := fun i m => (cs.drop (i * 1)).take 1 = [.bool m]) (fun i hi => by
    obtain ⟨m, h3⟩ := (h2 i hi).bool he; exact ⟨m, h3⟩)
  refine ⟨f, ?_⟩
  apply List.ext_getElem?
  intro i
  unfold Jal.barr
  by_cases hi : i < n
  · have h3 := hf i hi
    have h4 : (List.take 1 (List.drop (i * 1) cs))[0]? = some (.bool (f i)) := by rw [h3]; rfl
    rw [List.getElem?_take, if_pos (by omega), List.getElem?_drop, Nat.mul_one, Nat.add_zero] at h4
    rw [h4, List.getElem?_map, List.getElem?_range hi]; rfl
  · rw [List.getElem?_eq_none (by omega), List.getElem?_eq_none (by simpa using hi)]
/-- a slice: what its elements' cells are -/
theorem Dec.slice {t e : TypeId} {a : Option Addr} {n c sz : Nat} {α : Type} [Inhabited α] {en : α → List Value} {ok : α → Prop} (h : Dec enc P w t [.slice a n c]) (ht : P.underlying t = some (.slice e))
    (hs : P.cellsOf e = sz) (h0 : 0 < sz) (hd : ∀ cs, Dec enc P w e cs → ∃ x, cs = en x ∧ ok x) :
    (n : Int) ≤ 9223372036854775807 ∧ ∃ l : Nat → α, Sl w a n sz (fun i => en (l i)) ∧ ∀ i, i < n → ok (l i) := by
  obtain ⟨fu, x, h⟩ := h
  rcases Go.Deep.open_slice ht h with ⟨hcs, _⟩ | ⟨ad, len, cap, m, f, D, Pl, hcs, _, hlc, hm, hmm, _, hx⟩
  · simp at hcs
    obtain ⟨rfl, rfl, rfl⟩ := hcs
    exact ⟨by omega, fun _ => default, ⟨.inl rfl⟩, fun i hi => by omega⟩
  · simp at hcs
    obtain ⟨rfl, rfl, rfl⟩ := hcs
    simp at hmm
    subst hmm
    have hel : ∀ i, i < n → ∃ y, (∃ cs', w.cells? 0 (ad.add (i * sz)) sz = some cs' ∧ cs' = en y) ∧ ok y := fun i hi => by
      obtain ⟨cs', h1, h2⟩ := hx i (by omega)
      rw [hs] at h1
      obtain ⟨y, rfl, hy⟩ := hd cs' ⟨_, _, h2⟩
      exact ⟨y, ⟨_, h1, rfl⟩, hy⟩
    obtain ⟨l, hl⟩ := Go.Deep.choose_lt hel
    refine ⟨by unfold maxLen at hm; omega, l, ⟨?_⟩, fun i hi => (hl i hi).2⟩
    by_cases hn : n = 0
    · exact .inl hn
    right
    have hc0 : ∀ i, i < n → ∀ j, j < sz → w.cell? ((ad.add (i * sz)).add j) = (en (l i))[j]? := fun i hi j hj => by
      obtain ⟨cs', h1, rfl⟩ := (hl i hi).1
      exact (World.cells?_some h1).2.2 j hj
    have hlen : ∀ i, i < n → (en (l i)).length = sz := fun i hi => by
      obtain ⟨cs', h1, rfl⟩ := (hl i hi).1
      exact (World.cells?_some h1).2.1
    obtain ⟨b, o, spot⟩ := ad
    have hcell0 := hc0 0 (by omega) 0 h0
    rw [List.getElem?_eq_getElem (by rw [hlen 0 (by omega)]; exact h0)] at hcell0
    have hspot : spot = none := by simpa [Addr.add] using World.cell?_spot hcell0
    subst hspot
    refine ⟨b, o, rfl, ?_, fun i hi j v hv => ?_⟩
    · have := World.block_lt_of_cell? w _ hcell0
      simpa [Addr.add] using this
    · have hj : j < sz := by rw [← hlen i hi]; exact (List.getElem?_eq_some_iff.1 hv).1
      have := hc0 i hi j hj
      rw [Addr.add_off] at this
      rw [this]; exact hv
theorem splitAt {cs A : List Value} {o k : Nat} (h : (cs.drop o).take k = A) : cs.drop o = A ++ cs.drop (o + k) := by
  rw [← h, ← List.drop_drop, List.take_append_drop]
end
end Jal
