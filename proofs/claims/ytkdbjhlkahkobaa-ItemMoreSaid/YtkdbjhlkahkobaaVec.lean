/- vectors: six numbers; what the program's functions on them give -/
import Derived.Test.YtkdbjhlkahkobaaEq
namespace Go.Proofs.Ytkdbjhlkahkobaa
open Jal Go.RowKit
set_option maxRecDepth 100000
abbrev Vec := Nat → Int
def encV (v : Vec) : List Value := arr .u64 6 v
def eqV (a b : Vec) : Bool := (List.range 6).all fun i => decide (a i = b i)
theorem eqV_iff {a b : Vec} : eqV a b = true ↔ ∀ i, i < 6 → a i = b i := by
  simp [eqV, List.all_eq_true, List.mem_range]
def eachV (op : Int → Int → Int) (a b : Vec) : Vec := fun i => op (a i) (b i)
def moreI (a b : Int) : Int := bif decide (b > a) then min (IntKind.u64.wrap (b - a)) 1099511627776 else 0
def addU (a b : Int) : Int := IntKind.u64.wrap (a + b)
def sumV : Nat → (Nat → Int) → Int
  | 0, _ => 0
  | i + 1, f => addU (sumV i f) (f i)
def missV (a b : Vec) : Int := sumV 6 (eachV moreI a b)
def totV (a : Vec) : Int := sumV 6 (fun i => min (a i) 1048576)
def greatV (a b : Vec) : Bool := eqV (eachV max a b) a
theorem eq_int2 {P : Program} {t : TypeId} {k : IntKind} (h : P.underlying t = some (.int k)) (d : Nat) (a b : Int) (w : World) : (Op.equalIn (d + 1) t (.int k a) (.int k b)).run P w = .ok (decide (a = b)) w := by
  by_cases hab : a = b
  · subst hab; simp [Op.equalIn, run_underlying h]
  · simp [Op.equalIn, run_underlying h, hab]
theorem eq_items2 {P : Program} (d : Nat) {e : TypeId} {k : IntKind} (hu : P.underlying e = some (.int k)) (hs : P.cellsOf e = 1) (xs ys : Array Value) (a b : Nat → Int) (w : World) :
    ∀ (is : List Nat), (∀ i ∈ is, xs[i]? = some (.int k (a i)) ∧ ys[i]? = some (.int k (b i))) → (Op.eqItems (d + 1) e (P.cellsOf e) xs ys is).run P w = .ok (is.all fun i => decide (a i = b i)) w
  | [], _ => by simp [Op.eqItems]
  | i :: is, h => by
    obtain ⟨h1, h2⟩ := h i (by simp)
    have he : P.plainKey e = true := by simp [Program.plainKey, hu]
    have ih := eq_items2 d hu hs xs ys a b w is (fun j hj => h j (by simp [hj]))
    rw [hs] at ih ⊢
    by_cases hab : a i = b i
    · simp [Op.eqItems, Sem.run_bind, Nat.mul_one, run_part_plain w he h1, run_part_plain w he h2, eq_int2 hu, hab, ih]
    · simp [Op.eqItems, Sem.run_bind, Nat.mul_one, run_part_plain w he h1, run_part_plain w he h2, eq_int2 hu, hab]
theorem encV_get (v : Vec) (i : Nat) (h : i < 6) : (encV v)[i]? = some (.int .u64 (v i)) := by
  rcases six h with rfl | rfl | rfl | rfl | rfl | rfl <;> rfl
theorem equal24 (d : Nat) (a b : Vec) (w : World) : (Op.equalIn (d + 2) 24 (.agg (encV a).toArray) (.agg (encV b).toArray)).run Try.prog w = .ok (eqV a b) w := by
  have hi : ∃ i, Try.prog.info? 22 = some i := info_of_underlying Try.underlying22
  obtain ⟨i, hi⟩ := hi
  rw [run_equalIn_array w (d + 1) _ _ Try.underlying24 hi]
  exact eq_items2 d Try.underlying22 (by kernel_rfl) _ _ a b w _ (fun i hi => ⟨by have := encV_get a i (List.mem_range.1 hi); simpa using this, by have := encV_get b i (List.mem_range.1 hi); simpa using this⟩)
theorem eql24 {x y : Operand} (a b : Vec) (w : World) : (do eqGuard .eql 24 x y (.agg (encV a).toArray) (.agg (encV b).toArray); binOp .eql 24 (.agg (encV a).toArray) (.agg (encV b).toArray)).run Try.prog w = .ok (.bool (eqV a b)) w := by
  have ht : Try.prog.eqGuardType Try.prog.depth 24 = false := by kernel_rfl
  have he : (Op.equal 24 (.agg (encV a).toArray) (.agg (encV b).toArray)).run Try.prog w = .ok (eqV a b) w := equal24 9998 a b w
  simp [eqGuard, binOp, Sem.run_bind, run_program, ht, he]
end Go.Proofs.Ytkdbjhlkahkobaa
