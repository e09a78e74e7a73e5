/- the keys of this program's maps -/
import Derived.Test.YtkdbjhlkahkobaaMp1
import Derived.Test.YtkdbjhlkahkobaaRw2
import Derived.Laws.StructEq
namespace Go.Proofs.Ytkdbjhlkahkobaa
open Jal Go.RowKit
set_option maxRecDepth 100000
def kv34 (t : Nat → Int) : Value := .agg (arr .u8 16 t).toArray
def kv140 (p : Int × Int) : Value := .agg [.int .i64 p.1, .int .u64 p.2].toArray
def eq140 (a b : Int × Int) : Bool := decide (a.1 = b.1) && decide (a.2 = b.2)
theorem bits_zip {m : Nat} : ∀ (l : List Value), (∀ x ∈ l, Instr.sameBits m x x = true) → ((l.zip l).all fun (x, y) => Instr.sameBits m x y) = true
  | [], _ => rfl
  | a :: l, h => by
    rw [List.zip_cons_cons, List.all_cons, bits_zip l (fun x hx => h x (List.mem_cons_of_mem _ hx))]
    simp [h a (by simp)]
theorem bits_agg {m : Nat} (l : List Value) (h : ∀ x ∈ l, Instr.sameBits m x x = true) : Instr.sameBits (m + 1) (.agg l.toArray) (.agg l.toArray) = true := by
  show (l.toArray.size == l.toArray.size && (l.zip l).all fun (x, y) => Instr.sameBits m x y) = true
  rw [bits_zip l h]; simp
theorem bits_int {m : Nat} (k : IntKind) (a : Int) : Instr.sameBits m (.int k a) (.int k a) = true := by
  unfold Instr.sameBits; simp
theorem K34 : KeyT Try.prog 34 (Nat → Int) kv34 (eqA 16) where
  und := ⟨_, Try.underlying34, fun _ _ => rfl⟩
  chk e a w := by cases e <;> kernel_rfl
  eq a b w := arr_eq 9998 Try.underlying34 Try.underlying5 (by kernel_rfl) a b w
  same a b h := by
    have h1 := eqA_iff.1 h
    unfold kv34 arr
    congr 2
    exact List.map_congr_left fun i hi => by rw [h1 i (List.mem_range.1 hi)]
  bits a := bits_agg _ (fun x hx => by
    obtain ⟨i, _, rfl⟩ := List.mem_map.1 hx
    exact bits_int _ _)
theorem eq140_run (a b : Int × Int) (w : World) : (Op.equal 140 (kv140 a) (kv140 b)).run Try.prog w = .ok (eq140 a b) w := by
  obtain ⟨a1, a2⟩ := a
  obtain ⟨b1, b2⟩ := b
  show (Op.equalIn (9999 + 1) 140 (.agg [.int .i64 a1, .int .u64 a2].toArray) (.agg [.int .i64 b1, .int .u64 b2].toArray)).run Try.prog w = _
  rw [run_equalIn_struct w 9999 140 _ _ (by kernel_rfl) (by kernel_rfl)]
  unfold Program.fieldsOf
  rw [Try.underlying140]
  have p1 : ∀ (x y : Int) w, (part 3 [.int .i64 x, .int .u64 y].toArray 0).run Try.prog w = .ok (.int .i64 x) w := fun x y w => by kernel_rfl
  have p2 : ∀ (x y : Int) w, (part 22 [.int .i64 x, .int .u64 y].toArray 1).run Try.prog w = .ok (.int .u64 y) w := fun x y w => by kernel_rfl
  have q1 := fun w => run_equalIn_int (P := Try.prog) w 9998 3 .i64 .i64 a1 b1 Try.underlying3
  have q2 := fun w => run_equalIn_int (P := Try.prog) w 9998 22 .u64 .u64 a2 b2 Try.underlying22
  simp only [Op.eqFields, Sem.run_bind, Sem.run_ite, p1, p2, Result.andThen_ok, q1, q2, Sem.run_pure]
  unfold eq140
  by_cases h1 : a1 = b1 <;> by_cases h2 : a2 = b2 <;> simp [h1, h2]
theorem K140 : KeyT Try.prog 140 (Int × Int) kv140 eq140 where
  und := ⟨_, Try.underlying140, fun _ _ => rfl⟩
  chk e a w := by cases e <;> kernel_rfl
  eq := eq140_run
  same a b h := by
    unfold eq140 at h
    simp only [Bool.and_eq_true, decide_eq_true_eq] at h
    unfold kv140
    rw [h.1, h.2]
  bits a := bits_agg _ (fun x hx => by
    simp only [List.mem_cons, List.not_mem_nil, or_false] at hx
    rcases hx with rfl | rfl <;> exact bits_int _ _)
end Go.Proofs.Ytkdbjhlkahkobaa
