/- a group is the same as itself, for the model's own test -/
import Derived.Test.YtkdbjhlkahkobaaWa
import Derived.ProofKit
import Derived.ChangeKeysEq
namespace Go.Proofs.Ytkdbjhlkahkobaa
open Jal Go.RowKit
set_option maxRecDepth 100000
section
variable {P : Program}
theorem eq_int {t : TypeId} {k : IntKind} (h : P.underlying t = some (.int k)) (d : Nat) (a : Int) (w : World) : (Op.equalIn (d + 1) t (.int k a) (.int k a)).run P w = .ok true w := by
  simp [Op.equalIn, run_underlying h]
theorem eq_bool {t : TypeId} (h : P.underlying t = some .bool) (d : Nat) (a : Bool) (w : World) : (Op.equalIn (d + 1) t (.bool a) (.bool a)).run P w = .ok true w := by
  simp [Op.equalIn, run_underlying h]
theorem eq_items (d : Nat) {e : TypeId} (he : P.plainKey e = true) (hs : P.cellsOf e = 1) (xs : Array Value) (w : World) :
    ∀ (is : List Nat), (∀ i ∈ is, ∃ v, xs[i]? = some v ∧ (Op.equalIn d e v v).run P w = .ok true w) → (Op.eqItems d e (P.cellsOf e) xs xs is).run P w = .ok true w
  | [], _ => by simp [Op.eqItems]
  | i :: is, h => by
    obtain ⟨v, hv, hr⟩ := h i (by simp)
    have ih := eq_items d he hs xs w is (fun j hj => h j (by simp [hj]))
    rw [hs] at ih ⊢
    simp [Op.eqItems, Sem.run_bind, Nat.mul_one, run_part_plain w he hv, hr, ih]
theorem eq_arr {t e : TypeId} {n : Nat} (hu : P.underlying t = some (.array n e)) (he : P.plainKey e = true) (hs : P.cellsOf e = 1) (d : Nat) (xs : Array Value) (w : World)
    (h : ∀ i, i < n → ∃ v, xs[i]? = some v ∧ (Op.equalIn d e v v).run P w = .ok true w) : (Op.equalIn (d + 1) t (.agg xs) (.agg xs)).run P w = .ok true w := by
  have hi : ∃ i, P.info? e = some i := by
    unfold Program.plainKey at he
    cases hx : P.underlying e with
    | none => simp [hx] at he
    | some D => exact info_of_underlying hx
  obtain ⟨i, hi⟩ := hi
  rw [run_equalIn_array w d xs xs hu hi]
  exact eq_items d he hs xs w _ (fun i hi => h i (List.mem_range.1 hi))
end
theorem eq41 (d : Nat) (m : Nat → Bool) (w : World) : (Op.equalIn (d + 2) 41 (.agg (barr 6 m).toArray) (.agg (barr 6 m).toArray)).run Try.prog w = .ok true w :=
  eq_arr Try.underlying41 (by kernel_rfl) (by kernel_rfl) (d + 1) _ w (fun i hi => ⟨.bool (m i), by have := barr_get m i hi; simpa using this, eq_bool Try.underlying4 d _ w⟩)
theorem eq23 (d : Nat) (m : Nat → Int) (w : World) : (Op.equalIn (d + 2) 23 (.agg (arr .u64 6 m).toArray) (.agg (arr .u64 6 m).toArray)).run Try.prog w = .ok true w :=
  eq_arr Try.underlying23 (by kernel_rfl) (by kernel_rfl) (d + 1) _ w (fun i hi => ⟨.int .u64 (m i), by rcases six hi with rfl | rfl | rfl | rfl | rfl | rfl <;> rfl, eq_int Try.underlying22 d _ w⟩)
theorem eq_fields {P : Program} (d : Nat) (xs : Array Value) (w : World) : ∀ (fs : List Field), (∀ f ∈ fs, f.name ≠ "_" ∧ ∃ v, (part f.type xs f.offset).run P w = .ok v w ∧ (Op.equalIn d f.type v v).run P w = .ok true w) →
    (Op.eqFields d xs xs fs).run P w = .ok true w
  | [], _ => by simp [Op.eqFields]
  | f :: fs, h => by
    obtain ⟨hn, v, hv, hr⟩ := h f (by simp)
    have ih := eq_fields d xs w fs (fun j hj => h j (by simp [hj]))
    simp [Op.eqFields, Sem.run_bind, hn, hv, hr, ih]
theorem part_agg {P : Program} {t : TypeId} {xs : Array Value} {o k : Nat} {v : Value} (ha : ∀ w, (isAgg t).run P w = .ok true w) (hk : ∀ w, (Go.sizeOf t).run P w = .ok k w) (hx : .agg (xs.extract o (o + k)) = v) (w : World) :
    (part t xs o).run P w = .ok v w := by
  subst hx
  simp [part, Sem.run_bind, ha, hk]
theorem eq43 (d : Nat) (g : Grp) (w : World) : (Op.equalIn (d + 3) 43 (.agg (encG g).toArray) (.agg (encG g).toArray)).run Try.prog w = .ok true w := by
  rw [run_equalIn_struct w (d + 2) 43 _ _ (by kernel_rfl) (by kernel_rfl)]
  refine eq_fields _ _ w _ ?_
  have hf : Try.prog.fieldsOf 43 = #[{ name := "Owner", type := 3, offset := 0, embedded := false, tag := "", pkgPath := "", byteOffset := 0 },
        { name := "Epoch", type := 3, offset := 1, embedded := false, tag := "", pkgPath := "", byteOffset := 8 },
        { name := "Members", type := 41, offset := 2, embedded := false, tag := "", pkgPath := "", byteOffset := 16 },
        { name := "Gone", type := 41, offset := 8, embedded := false, tag := "", pkgPath := "", byteOffset := 22 },
        { name := "Cut", type := 23, offset := 14, embedded := false, tag := "", pkgPath := "", byteOffset := 32 },
        { name := "Seen", type := 3, offset := 20, embedded := false, tag := "", pkgPath := "", byteOffset := 80 }] := by kernel_rfl
  rw [hf]
  have p3 : Try.prog.plainKey 3 = true := by kernel_rfl
  intro f hm
  simp only [List.mem_cons, List.not_mem_nil, or_false] at hm
  rcases hm with rfl | rfl | rfl | rfl | rfl | rfl
  · exact ⟨by decide, .int .i64 g.owner, run_part_plain w p3 rfl, eq_int Try.underlying3 (d + 1) _ w⟩
  · exact ⟨by decide, .int .i64 g.epoch, run_part_plain w p3 rfl, eq_int Try.underlying3 (d + 1) _ w⟩
  · exact ⟨by decide, .agg (barr 6 g.members).toArray, part_agg Try.isAgg41 Try.sizeOf41 rfl w, eq41 d _ w⟩
  · exact ⟨by decide, .agg (barr 6 g.gone).toArray, part_agg Try.isAgg41 Try.sizeOf41 rfl w, eq41 d _ w⟩
  · exact ⟨by decide, .agg (arr .u64 6 g.cut).toArray, part_agg Try.isAgg23 Try.sizeOf23 rfl w, eq23 d _ w⟩
  · exact ⟨by decide, .int .i64 g.seen, run_part_plain w p3 rfl, eq_int Try.underlying3 (d + 1) _ w⟩
theorem neq43 {x y : Operand} {g g' : Grp} (h : g = g') (w : World) : (do eqGuard .neq 43 x y (.agg (encG g).toArray) (.agg (encG g').toArray); binOp .neq 43 (.agg (encG g).toArray) (.agg (encG g').toArray)).run Try.prog w = .ok (.bool false) w := by
  subst h
  have ht : Try.prog.eqGuardType Try.prog.depth 43 = false := by kernel_rfl
  have he : (Op.equal 43 (.agg (encG g).toArray) (.agg (encG g).toArray)).run Try.prog w = .ok true w := eq43 9997 g w
  simp [eqGuard, binOp, Sem.run_bind, run_program, ht, he]
end Go.Proofs.Ytkdbjhlkahkobaa
