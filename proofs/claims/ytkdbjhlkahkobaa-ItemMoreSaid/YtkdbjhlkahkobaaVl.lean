/- the plain laws of vectors -/
import Derived.Test.YtkdbjhlkahkobaaVec
namespace Go.Proofs.Ytkdbjhlkahkobaa
open Jal Go.RowKit
set_option maxRecDepth 100000
theorem great_iff {x y : Vec} : greatV x y = true ↔ ∀ i, i < 6 → y i ≤ x i := by
  unfold greatV
  rw [eqV_iff]
  refine ⟨fun h i hi => ?_, fun h i hi => ?_⟩
  · have := h i hi; simp only [eachV] at this; omega
  · have := h i hi; simp only [eachV]; omega
theorem bool_ext {a b : Bool} (h : a = true ↔ b = true) : a = b := by cases a <;> cases b <;> simp_all
def rgreatV (a b : Vec) : Bool := bif decide (a 0 < b 0) then false else bif decide (a 1 < b 1) then false else bif decide (a 2 < b 2) then false else
  bif decide (a 3 < b 3) then false else bif decide (a 4 < b 4) then false else bif decide (a 5 < b 5) then false else true
theorem rgreat_iff {a b : Vec} : rgreatV a b = true ↔ ∀ i, i < 6 → b i ≤ a i := by
  have h6 : (∀ i, i < 6 → b i ≤ a i) ↔ (b 0 ≤ a 0 ∧ b 1 ≤ a 1 ∧ b 2 ≤ a 2 ∧ b 3 ≤ a 3 ∧ b 4 ≤ a 4 ∧ b 5 ≤ a 5) := by
    refine ⟨fun h => ⟨h 0 (by omega), h 1 (by omega), h 2 (by omega), h 3 (by omega), h 4 (by omega), h 5 (by omega)⟩, fun h i hi => ?_⟩
    rcases six hi with rfl | rfl | rfl | rfl | rfl | rfl <;> omega
  rw [h6]
  unfold rgreatV
  simp only [cond_eq_ite, decide_eq_true_eq]
  by_cases h0 : a 0 < b 0
  · simp [h0] <;> omega
  by_cases h1 : a 1 < b 1
  · simp [h0, h1] <;> omega
  by_cases h2 : a 2 < b 2
  · simp [h0, h1, h2] <;> omega
  by_cases h3 : a 3 < b 3
  · simp [h0, h1, h2, h3] <;> omega
  by_cases h4 : a 4 < b 4
  · simp [h0, h1, h2, h3, h4] <;> omega
  by_cases h5 : a 5 < b 5
  · simp [h0, h1, h2, h3, h4, h5] <;> omega
  · simp [h0, h1, h2, h3, h4, h5] <;> omega
theorem rgreat_eq (a b : Vec) : rgreatV a b = greatV a b := bool_ext (rgreat_iff.trans great_iff.symm)
theorem more0 {a b : Int} (h : ¬ b > a) : moreI a b = 0 := by simp [moreI, h]
theorem sum0 {f : Nat → Int} : ∀ n, (∀ i, i < n → f i = 0) → sumV n f = 0
  | 0, _ => rfl
  | n + 1, h => by
    show addU (sumV n f) (f n) = 0
    rw [sum0 n (fun i hi => h i (by omega)), h n (by omega)]; rfl
theorem join_l (a b : Vec) : greatV (eachV max a b) a = true := great_iff.2 fun i _ => by simp only [eachV]; omega
theorem join_r (a b : Vec) : greatV (eachV max a b) b = true := great_iff.2 fun i _ => by simp only [eachV]; omega
theorem meet_l (a b : Vec) : greatV a (eachV min a b) = true := great_iff.2 fun i _ => by simp only [eachV]; omega
theorem meet_r (a b : Vec) : greatV b (eachV min a b) = true := great_iff.2 fun i _ => by simp only [eachV]; omega
theorem join_both (a b c : Vec) : (greatV c a && greatV c b) = greatV c (eachV max a b) := bool_ext (by
  rw [Bool.and_eq_true, great_iff, great_iff, great_iff]
  refine ⟨fun ⟨h, k⟩ i hi => ?_, fun h => ⟨fun i hi => ?_, fun i hi => ?_⟩⟩
  · have := h i hi; have := k i hi; simp only [eachV]; omega
  · have := h i hi; simp only [eachV] at this; omega
  · have := h i hi; simp only [eachV] at this; omega)
theorem join_comm (a b : Vec) : eqV (eachV max b a) (eachV max a b) = true := eqV_iff.2 fun i _ => by simp only [eachV]; omega
theorem miss_join (a b : Vec) : missV (eachV max a b) a = 0 := sum0 6 fun i _ => by simp only [eachV]; exact more0 (by omega)

/-! ### sums -/
def smallR (a b : Vec) : Nat → Bool
  | 0 => true
  | i + 1 => (smallR a b i && decide (a i ≤ 1099511627776)) && decide (b i ≤ 1099511627776)
def missR (a b : Vec) : Nat → Int
  | 0 => 0
  | i + 1 => bif decide (b i > a i) then addU (missR a b i) (IntKind.u64.wrap (b i - a i)) else missR a b i
theorem missR_t {a b : Vec} {i : Nat} (h : decide (b i > a i) = true) : missR a b (i + 1) = addU (missR a b i) (IntKind.u64.wrap (b i - a i)) := by simp only [missR, h, cond_true]
theorem missR_f {a b : Vec} {i : Nat} (h : decide (b i > a i) = false) : missR a b (i + 1) = missR a b i := by simp only [missR, h, cond_false]
theorem addU_small {a b : Int} (h : 0 ≤ a + b) (h' : a + b ≤ 18446744073709551615) : addU a b = a + b := ru h h'
theorem miss_small (a b : Vec) (ha : ∀ i, i < 6 → 0 ≤ a i) : ∀ n, n ≤ 6 → smallR a b n = true →
    missR a b n = sumV n (eachV moreI a b) ∧ 0 ≤ missR a b n ∧ missR a b n ≤ (n : Int) * 1099511627776
  | 0, _, _ => ⟨rfl, by simp [missR], by simp [missR]⟩
  | n + 1, hn, hs => by
    simp only [smallR, Bool.and_eq_true, decide_eq_true_eq] at hs
    obtain ⟨⟨h1, h2⟩, h3⟩ := hs
    obtain ⟨h4, h5, h6⟩ := miss_small a b ha n (by omega) h1
    have h0 := ha n (by omega)
    show _ = addU (sumV n (eachV moreI a b)) (moreI (a n) (b n)) ∧ _
    rw [← h4]
    by_cases hc : b n > a n
    · rw [missR_t (decide_eq_true hc)]
      have hw : IntKind.u64.wrap (b n - a n) = b n - a n := ru (by omega) (by omega)
      have hm : moreI (a n) (b n) = b n - a n := by
        unfold moreI; rw [decide_eq_true hc, hw]; simp only [cond_true]; omega
      rw [hw, hm]
      have hk : addU (missR a b n) (b n - a n) = missR a b n + (b n - a n) := addU_small (by omega) (by omega)
      rw [hk]
      exact ⟨rfl, by omega, by omega⟩
    · rw [missR_f (decide_eq_false hc), more0 hc]
      have hk : addU (missR a b n) 0 = missR a b n := by rw [addU_small (by omega) (by omega)]; omega
      rw [hk]
      exact ⟨rfl, h5, by omega⟩
theorem reck_last (a b : Vec) (ha : ∀ i, i < 6 → 0 ≤ a i) : (!(smallR a b 6) || decide (missV a b = missR a b 6)) = true := by
  cases hs : smallR a b 6 with
  | false => rfl
  | true =>
    have := (miss_small a b ha 6 (by omega) hs).1
    simp [missV, this]
theorem encV_at (v : Vec) (i : Nat) (h : i < 6) : (encV v)[0 + ((i : Int)).toNat * 1]? = some (.int .u64 (v i)) := by
  have := encV_get v i h; simpa using this
end Go.Proofs.Ytkdbjhlkahkobaa
