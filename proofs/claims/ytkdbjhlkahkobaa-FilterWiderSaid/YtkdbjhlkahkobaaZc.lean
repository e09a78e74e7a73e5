/- several texts of ours, joined: Eq, Vec, Vl, Wv, Hdr, Wh, Wf -/
import Derived.Test.YtkdbjhlkahkobaaZb
import Derived.ProofKit
import Derived.ChangeKeysEq
import Derived.Test.YtkdbjhlkahkobaaZa
/- a group is the same as itself, for the model's own test -/
namespace Go.Proofs.Ytkdbjhlkahkobaa
open Jal Go.RowKit
set_option maxRecDepth 100000
section
variable {P : Program}
theorem eq_int {t : TypeId} {k : IntKind} (h : P.underlying t = some (.int k)) (d : Nat) (a : Int) (w : World) : (Op.equalIn (d + 1) t (.int k a) (.int k a)).run P w = .ok true w := by
  simp [Op.equalIn, run_underlying h]
theorem eq_bool {t : TypeId} (h : P.underlying t = some .bool) (d : Nat) (a : Bool) (w : World) : (Op.equalIn (d + 1) t (.bool a) (.bool a)).run P w = .ok true w := by
  simp [Op.equalIn, run_underlying h]
theorem eq_items (d : Nat) {e : TypeId} (he : P.plainKey e = true) (hs : P.cellsOf e = 1) (xs : Array Value) (w : World) :
    ∀ (is : List Nat), (∀ i ∈ is, ∃ v, xs[i]? = some v ∧ (Op.equalIn d e v v).run P w = .ok true w) → (Op.eqItems d e (P.cellsOf e) xs xs is).run P w = .ok true w
  | [], _ => by simp [Op.eqItems]
  | i :: is, h => by
    obtain ⟨v, hv, hr⟩ := h i (by simp)
    have ih := eq_items d he hs xs w is (fun j hj => h j (by simp [hj]))
    rw [hs] at ih ⊢
    simp [Op.eqItems, Sem.run_bind, Nat.mul_one, run_part_plain w he hv, hr, ih]
theorem eq_arr {t e : TypeId} {n : Nat} (hu : P.underlying t = some (.array n e)) (he : P.plainKey e = true) (hs : P.cellsOf e = 1) (d : Nat) (xs : Array Value) (w : World)
    (h : ∀ i, i < n → ∃ v, xs[i]? = some v ∧ (Op.equalIn d e v v).run P w = .ok true w) : (Op.equalIn (d + 1) t (.agg xs) (.agg xs)).run P w = .ok true w := by
  have hi : ∃ i, P.info? e = some i := by
    unfold Program.plainKey at he
    cases hx : P.underlying e with
    | none => simp [hx] at he
    | some D => exact info_of_underlying hx
  obtain ⟨i, hi⟩ := hi
  rw [run_equalIn_array w d xs xs hu hi]
  exact eq_items d he hs xs w _ (fun i hi => h i (List.mem_range.1 hi))
end
theorem eq41 (d : Nat) (m : Nat → Bool) (w : World) : (Op.equalIn (d + 2) 41 (.agg (barr 6 m).toArray) (.agg (barr 6 m).toArray)).run Try.prog w = .ok true w :=
  eq_arr Try.underlying41 (by kernel_rfl) (by kernel_rfl) (d + 1) _ w (fun i hi => ⟨.bool (m i), by have := barr_get m i hi; simpa using this, eq_bool Try.underlying4 d _ w⟩)
theorem eq23 (d : Nat) (m : Nat → Int) (w : World) : (Op.equalIn (d + 2) 23 (.agg (arr .u64 6 m).toArray) (.agg (arr .u64 6 m).toArray)).run Try.prog w = .ok true w :=
  eq_arr Try.underlying23 (by kernel_rfl) (by kernel_rfl) (d + 1) _ w (fun i hi => ⟨.int .u64 (m i), by rcases six hi with rfl | rfl | rfl | rfl | rfl | rfl <;> rfl, eq_int Try.underlying22 d _ w⟩)
theorem eq_fields {P : Program} (d : Nat) (xs : Array Value) (w : World) : ∀ (fs : List Field), (∀ f ∈ fs, f.name ≠ "_" ∧ ∃ v, (part f.type xs f.offset).run P w = .ok v w ∧ (Op.equalIn d f.type v v).run P w = .ok true w) →
    (Op.eqFields d xs xs fs).run P w = .ok true w
  | [], _ => by simp [Op.eqFields]
  | f :: fs, h => by
    obtain ⟨hn, v, hv, hr⟩ := h f (by simp)
    have ih := eq_fields d xs w fs (fun j hj => h j (by simp [hj]))
    simp [Op.eqFields, Sem.run_bind, hn, hv, hr, ih]
theorem part_agg {P : Program} {t : TypeId} {xs : Array Value} {o k : Nat} {v : Value} (ha : ∀ w, (isAgg t).run P w = .ok true w) (hk : ∀ w, (Go.sizeOf t).run P w = .ok k w) (hx : .agg (xs.extract o (o + k)) = v) (w : World) :
    (part t xs o).run P w = .ok v w := by
  subst hx
  simp [part, Sem.run_bind, ha, hk]
theorem eq43 (d : Nat) (g : Grp) (w : World) : (Op.equalIn (d + 3) 43 (.agg (encG g).toArray) (.agg (encG g).toArray)).run Try.prog w = .ok true w := by
  rw [run_equalIn_struct w (d + 2) 43 _ _ (by kernel_rfl) (by kernel_rfl)]
  refine eq_fields _ _ w _ ?_
  have hf : Try.prog.fieldsOf 43 = #[{ name := "Owner", type := 3, offset := 0, embedded := false, tag := "", pkgPath := "", byteOffset := 0 },
        { name := "Epoch", type := 3, offset := 1, embedded := false, tag := "", pkgPath := "", byteOffset := 8 },
        { name := "Members", type := 41, offset := 2, embedded := false, tag := "", pkgPath := "", byteOffset := 16 },
        { name := "Gone", type := 41, offset := 8, embedded := false, tag := "", pkgPath := "", byteOffset := 22 },
        { name := "Cut", type := 23, offset := 14, embedded := false, tag := "", pkgPath := "", byteOffset := 32 },
        { name := "Seen", type := 3, offset := 20, embedded := false, tag := "", pkgPath := "", byteOffset := 80 }] := by kernel_rfl
  rw [hf]
  have p3 : Try.prog.plainKey 3 = true := by kernel_rfl
  intro f hm
  simp only [List.mem_cons, List.not_mem_nil, or_false] at hm
  rcases hm with rfl | rfl | rfl | rfl | rfl | rfl
  · exact ⟨by decide, .int .i64 g.owner, run_part_plain w p3 rfl, eq_int Try.underlying3 (d + 1) _ w⟩
  · exact ⟨by decide, .int .i64 g.epoch, run_part_plain w p3 rfl, eq_int Try.underlying3 (d + 1) _ w⟩
  · exact ⟨by decide, .agg (barr 6 g.members).toArray, part_agg Try.isAgg41 Try.sizeOf41 rfl w, eq41 d _ w⟩
  · exact ⟨by decide, .agg (barr 6 g.gone).toArray, part_agg Try.isAgg41 Try.sizeOf41 rfl w, eq41 d _ w⟩
  · exact ⟨by decide, .agg (arr .u64 6 g.cut).toArray, part_agg Try.isAgg23 Try.sizeOf23 rfl w, eq23 d _ w⟩
  · exact ⟨by decide, .int .i64 g.seen, run_part_plain w p3 rfl, eq_int Try.underlying3 (d + 1) _ w⟩
theorem neq43 {x y : Operand} {g g' : Grp} (h : g = g') (w : World) : (do eqGuard .neq 43 x y (.agg (encG g).toArray) (.agg (encG g').toArray); binOp .neq 43 (.agg (encG g).toArray) (.agg (encG g').toArray)).run Try.prog w = .ok (.bool false) w := by
  subst h
  have ht : Try.prog.eqGuardType Try.prog.depth 43 = false := by kernel_rfl
  have he : (Op.equal 43 (.agg (encG g).toArray) (.agg (encG g).toArray)).run Try.prog w = .ok true w := eq43 9997 g w
  simp [eqGuard, binOp, Sem.run_bind, run_program, ht, he]
end Go.Proofs.Ytkdbjhlkahkobaa
/- vectors: six numbers; what the program's functions on them give -/
namespace Go.Proofs.Ytkdbjhlkahkobaa
open Jal Go.RowKit
set_option maxRecDepth 100000
abbrev Vec := Nat → Int
def encV (v : Vec) : List Value := arr .u64 6 v
def eqV (a b : Vec) : Bool := (List.range 6).all fun i => decide (a i = b i)
theorem eqV_iff {a b : Vec} : eqV a b = true ↔ ∀ i, i < 6 → a i = b i := by
  simp [eqV, List.all_eq_true, List.mem_range]
def eachV (op : Int → Int → Int) (a b : Vec) : Vec := fun i => op (a i) (b i)
def moreI (a b : Int) : Int := bif decide (b > a) then min (IntKind.u64.wrap (b - a)) 1099511627776 else 0
def addU (a b : Int) : Int := IntKind.u64.wrap (a + b)
def sumV : Nat → (Nat → Int) → Int
  | 0, _ => 0
  | i + 1, f => addU (sumV i f) (f i)
def missV (a b : Vec) : Int := sumV 6 (eachV moreI a b)
def totV (a : Vec) : Int := sumV 6 (fun i => min (a i) 1048576)
def greatV (a b : Vec) : Bool := eqV (eachV max a b) a
theorem eq_int2 {P : Program} {t : TypeId} {k : IntKind} (h : P.underlying t = some (.int k)) (d : Nat) (a b : Int) (w : World) : (Op.equalIn (d + 1) t (.int k a) (.int k b)).run P w = .ok (decide (a = b)) w := by
  by_cases hab : a = b
  · subst hab; simp [Op.equalIn, run_underlying h]
  · simp [Op.equalIn, run_underlying h, hab]
theorem eq_items2 {P : Program} (d : Nat) {e : TypeId} {k : IntKind} (hu : P.underlying e = some (.int k)) (hs : P.cellsOf e = 1) (xs ys : Array Value) (a b : Nat → Int) (w : World) :
    ∀ (is : List Nat), (∀ i ∈ is, xs[i]? = some (.int k (a i)) ∧ ys[i]? = some (.int k (b i))) → (Op.eqItems (d + 1) e (P.cellsOf e) xs ys is).run P w = .ok (is.all fun i => decide (a i = b i)) w
  | [], _ => by simp [Op.eqItems]
  | i :: is, h => by
    obtain ⟨h1, h2⟩ := h i (by simp)
    have he : P.plainKey e = true := by simp [Program.plainKey, hu]
    have ih := eq_items2 d hu hs xs ys a b w is (fun j hj => h j (by simp [hj]))
    rw [hs] at ih ⊢
    by_cases hab : a i = b i
    · simp [Op.eqItems, Sem.run_bind, Nat.mul_one, run_part_plain w he h1, run_part_plain w he h2, eq_int2 hu, hab, ih]
    · simp [Op.eqItems, Sem.run_bind, Nat.mul_one, run_part_plain w he h1, run_part_plain w he h2, eq_int2 hu, hab]
theorem encV_get (v : Vec) (i : Nat) (h : i < 6) : (encV v)[i]? = some (.int .u64 (v i)) := by
  rcases six h with rfl | rfl | rfl | rfl | rfl | rfl <;> rfl
theorem equal24 (d : Nat) (a b : Vec) (w : World) : (Op.equalIn (d + 2) 24 (.agg (encV a).toArray) (.agg (encV b).toArray)).run Try.prog w = .ok (eqV a b) w := by
  have hi : ∃ i, Try.prog.info? 22 = some i := info_of_underlying Try.underlying22
  obtain ⟨i, hi⟩ := hi
  rw [run_equalIn_array w (d + 1) _ _ Try.underlying24 hi]
  exact eq_items2 d Try.underlying22 (by kernel_rfl) _ _ a b w _ (fun i hi => ⟨by have := encV_get a i (List.mem_range.1 hi); simpa using this, by have := encV_get b i (List.mem_range.1 hi); simpa using this⟩)
theorem eql24 {x y : Operand} (a b : Vec) (w : World) : (do eqGuard .eql 24 x y (.agg (encV a).toArray) (.agg (encV b).toArray); binOp .eql 24 (.agg (encV a).toArray) (.agg (encV b).toArray)).run Try.prog w = .ok (.bool (eqV a b)) w := by
  have ht : Try.prog.eqGuardType Try.prog.depth 24 = false := by kernel_rfl
  have he : (Op.equal 24 (.agg (encV a).toArray) (.agg (encV b).toArray)).run Try.prog w = .ok (eqV a b) w := equal24 9998 a b w
  simp [eqGuard, binOp, Sem.run_bind, run_program, ht, he]
end Go.Proofs.Ytkdbjhlkahkobaa
/- the plain laws of vectors -/
namespace Go.Proofs.Ytkdbjhlkahkobaa
open Jal Go.RowKit
set_option maxRecDepth 100000
theorem great_iff {x y : Vec} : greatV x y = true ↔ ∀ i, i < 6 → y i ≤ x i := by
  unfold greatV
  rw [eqV_iff]
  refine ⟨fun h i hi => ?_, fun h i hi => ?_⟩
  · have := h i hi; simp only [eachV] at this; omega
  · have := h i hi; simp only [eachV]; omega
theorem bool_ext {a b : Bool} (h : a = true ↔ b = true) : a = b := by cases a <;> cases b <;> simp_all
def rgreatV (a b : Vec) : Bool := bif decide (a 0 < b 0) then false else bif decide (a 1 < b 1) then false else bif decide (a 2 < b 2) then false else
  bif decide (a 3 < b 3) then false else bif decide (a 4 < b 4) then false else bif decide (a 5 < b 5) then false else true
theorem rgreat_iff {a b : Vec} : rgreatV a b = true ↔ ∀ i, i < 6 → b i ≤ a i := by
  have h6 : (∀ i, i < 6 → b i ≤ a i) ↔ (b 0 ≤ a 0 ∧ b 1 ≤ a 1 ∧ b 2 ≤ a 2 ∧ b 3 ≤ a 3 ∧ b 4 ≤ a 4 ∧ b 5 ≤ a 5) := by
    refine ⟨fun h => ⟨h 0 (by omega), h 1 (by omega), h 2 (by omega), h 3 (by omega), h 4 (by omega), h 5 (by omega)⟩, fun h i hi => ?_⟩
    rcases six hi with rfl | rfl | rfl | rfl | rfl | rfl <;> omega
  rw [h6]
  unfold rgreatV
  simp only [cond_eq_ite, decide_eq_true_eq]
  by_cases h0 : a 0 < b 0
  · simp [h0] <;> omega
  by_cases h1 : a 1 < b 1
  · simp [h0, h1] <;> omega
  by_cases h2 : a 2 < b 2
  · simp [h0, h1, h2] <;> omega
  by_cases h3 : a 3 < b 3
  · simp [h0, h1, h2, h3] <;> omega
  by_cases h4 : a 4 < b 4
  · simp [h0, h1, h2, h3, h4] <;> omega
  by_cases h5 : a 5 < b 5
  · simp [h0, h1, h2, h3, h4, h5] <;> omega
  · simp [h0, h1, h2, h3, h4, h5] <;> omega
theorem rgreat_eq (a b : Vec) : rgreatV a b = greatV a b := bool_ext (rgreat_iff.trans great_iff.symm)
theorem more0 {a b : Int} (h : ¬ b > a) : moreI a b = 0 := by simp [moreI, h]
theorem sum0 {f : Nat → Int} : ∀ n, (∀ i, i < n → f i = 0) → sumV n f = 0
  | 0, _ => rfl
  | n + 1, h => by
    show addU (sumV n f) (f n) = 0
    rw [sum0 n (fun i hi => h i (by omega)), h n (by omega)]; rfl
theorem join_l (a b : Vec) : greatV (eachV max a b) a = true := great_iff.2 fun i _ => by simp only [eachV]; omega
theorem join_r (a b : Vec) : greatV (eachV max a b) b = true := great_iff.2 fun i _ => by simp only [eachV]; omega
theorem meet_l (a b : Vec) : greatV a (eachV min a b) = true := great_iff.2 fun i _ => by simp only [eachV]; omega
theorem meet_r (a b : Vec) : greatV b (eachV min a b) = true := great_iff.2 fun i _ => by simp only [eachV]; omega
theorem join_both (a b c : Vec) : (greatV c a && greatV c b) = greatV c (eachV max a b) := bool_ext (by
  rw [Bool.and_eq_true, great_iff, great_iff, great_iff]
  refine ⟨fun ⟨h, k⟩ i hi => ?_, fun h => ⟨fun i hi => ?_, fun i hi => ?_⟩⟩
  · have := h i hi; have := k i hi; simp only [eachV]; omega
  · have := h i hi; simp only [eachV] at this; omega
  · have := h i hi; simp only [eachV] at this; omega)
theorem join_comm (a b : Vec) : eqV (eachV max b a) (eachV max a b) = true := eqV_iff.2 fun i _ => by simp only [eachV]; omega
theorem miss_join (a b : Vec) : missV (eachV max a b) a = 0 := sum0 6 fun i _ => by simp only [eachV]; exact more0 (by omega)

/-! ### sums -/
def smallR (a b : Vec) : Nat → Bool
  | 0 => true
  | i + 1 => (smallR a b i && decide (a i ≤ 1099511627776)) && decide (b i ≤ 1099511627776)
def missR (a b : Vec) : Nat → Int
  | 0 => 0
  | i + 1 => bif decide (b i > a i) then addU (missR a b i) (IntKind.u64.wrap (b i - a i)) else missR a b i
theorem missR_t {a b : Vec} {i : Nat} (h : decide (b i > a i) = true) : missR a b (i + 1) = addU (missR a b i) (IntKind.u64.wrap (b i - a i)) := by simp only [missR, h, cond_true]
theorem missR_f {a b : Vec} {i : Nat} (h : decide (b i > a i) = false) : missR a b (i + 1) = missR a b i := by simp only [missR, h, cond_false]
theorem addU_small {a b : Int} (h : 0 ≤ a + b) (h' : a + b ≤ 18446744073709551615) : addU a b = a + b := ru h h'
theorem miss_small (a b : Vec) (ha : ∀ i, i < 6 → 0 ≤ a i) : ∀ n, n ≤ 6 → smallR a b n = true →
    missR a b n = sumV n (eachV moreI a b) ∧ 0 ≤ missR a b n ∧ missR a b n ≤ (n : Int) * 1099511627776
  | 0, _, _ => ⟨rfl, by simp [missR], by simp [missR]⟩
  | n + 1, hn, hs => by
    simp only [smallR, Bool.and_eq_true, decide_eq_true_eq] at hs
    obtain ⟨⟨h1, h2⟩, h3⟩ := hs
    obtain ⟨h4, h5, h6⟩ := miss_small a b ha n (by omega) h1
    have h0 := ha n (by omega)
    show _ = addU (sumV n (eachV moreI a b)) (moreI (a n) (b n)) ∧ _
    rw [← h4]
    by_cases hc : b n > a n
    · rw [missR_t (decide_eq_true hc)]
      have hw : IntKind.u64.wrap (b n - a n) = b n - a n := ru (by omega) (by omega)
      have hm : moreI (a n) (b n) = b n - a n := by
        unfold moreI; rw [decide_eq_true hc, hw]; simp only [cond_true]; omega
      rw [hw, hm]
      have hk : addU (missR a b n) (b n - a n) = missR a b n + (b n - a n) := addU_small (by omega) (by omega)
      rw [hk]
      exact ⟨rfl, by omega, by omega⟩
    · rw [missR_f (decide_eq_false hc), more0 hc]
      have hk : addU (missR a b n) 0 = missR a b n := by rw [addU_small (by omega) (by omega)]; omega
      rw [hk]
      exact ⟨rfl, h5, by omega⟩
theorem reck_last (a b : Vec) (ha : ∀ i, i < 6 → 0 ≤ a i) : (!(smallR a b 6) || decide (missV a b = missR a b 6)) = true := by
  cases hs : smallR a b 6 with
  | false => rfl
  | true =>
    have := (miss_small a b ha 6 (by omega) hs).1
    simp [missV, this]
theorem encV_at (v : Vec) (i : Nat) (h : i < 6) : (encV v)[0 + ((i : Int)).toNat * 1]? = some (.int .u64 (v i)) := by
  have := encV_get v i h; simpa using this
end Go.Proofs.Ytkdbjhlkahkobaa
/- walks, printed by a program of ours -/
namespace Go.Proofs.Ytkdbjhlkahkobaa
open Jal Go.RowKit
set_option maxRecDepth 100000
theorem greater_calls (a b : Int) (w : World) : Calls Try.prog 66 #[.int .u64 a, .int .u64 b] w (Ret (.int .u64 (max a b)) w) := by
  refine fn_calls (n := 8) Try.func66 rfl rfl (lb rfl) ?_
  refine cseq ?_
  refine creg ?_
  refine l1 (asgi rfl) ?_
  refine lnil ?_
  refine nthen ?_
  refine cseq ?_
  refine creg ?_
  refine l1 (mvi rfl) ?_
  refine l1 (mvi rfl) ?_
  refine l1 (max2 rfl rfl) ?_
  refine l1 (asgi rfl) ?_
  refine lnil ?_
  refine nthen ?_
  refine cret ?_
  exact fin1 rfl rfl

theorem lesser_calls (a b : Int) (w : World) : Calls Try.prog 67 #[.int .u64 a, .int .u64 b] w (Ret (.int .u64 (min a b)) w) := by
  refine fn_calls (n := 8) Try.func67 rfl rfl (lb rfl) ?_
  refine cseq ?_
  refine creg ?_
  refine l1 (asgi rfl) ?_
  refine lnil ?_
  refine nthen ?_
  refine cseq ?_
  refine creg ?_
  refine l1 (mvi rfl) ?_
  refine l1 (mvi rfl) ?_
  refine l1 (min2 rfl rfl) ?_
  refine l1 (asgi rfl) ?_
  refine lnil ?_
  refine nthen ?_
  refine cret ?_
  exact fin1 rfl rfl

theorem more_calls (a b : Int) (w : World) : Calls Try.prog 68 #[.int .u64 a, .int .u64 b] w (Ret (.int .u64 (moreI a b)) w) := by
  refine fn_calls (n := 12) Try.func68 rfl rfl (lb rfl) ?_
  refine cseq ?_
  refine creg ?_
  refine l1 (asgi rfl) ?_
  refine lnil ?_
  refine nthen ?_
  refine cseq ?_
  refine cseq ?_
  refine creg ?_
  refine l1 (mvi rfl) ?_
  refine l1 (mvi rfl) ?_
  refine l1 (gtr rfl rfl) ?_
  refine lnil ?_
  refine nthen ?_
  refine cif rfl (fun h1 => ?_) (fun h1 => ?_)
  · skip
    refine cseq ?_
    refine creg ?_
    refine l1 (mvi rfl) ?_
    refine l1 (mvi rfl) ?_
    first | refine l1 (subn rfl rfl (ru (by omega) (by omega))) ?_ | refine l1 (sub rfl rfl) ?_
    refine l1 (min2 rfl rfl) ?_
    refine l1 (asgi rfl) ?_
    refine lnil ?_
    refine nthen ?_
    refine cret ?_
    refine nthenR ?_
    exact fin1i rfl rfl (by first | rfl | (simp only [moreI, h1, cond_true, cond_false]; done))
  · skip
    refine cskip ?_
    refine nthen ?_
    refine cseq ?_
    refine creg ?_
    refine l1 (asgi rfl) ?_
    refine lnil ?_
    refine nthen ?_
    refine cret ?_
    exact fin1i rfl rfl (by first | rfl | (simp only [moreI, h1, cond_true, cond_false]; done))

set_option maxHeartbeats 4000000 in
theorem each_calls {f : Nat} {op : Int → Int → Int} (hbf : HasBody Try.prog f) (hc : ∀ a b w, Calls Try.prog f #[.int .u64 a, .int .u64 b] w (Ret (.int .u64 (op a b)) w)) (a b : Vec) (w : World) : Calls Try.prog 65 #[.agg (encV a).toArray, .agg (encV b).toArray, .func (.func f) #[] #[]] w (Ret (.agg (encV (eachV op a b)).toArray) w) := by
  refine fn_calls (n := 23) Try.func65 rfl rfl (lb rfl) ?_
  refine cseq ?_
  refine creg ?_
  refine lbxa rfl (fun b1 => ?_)
  refine lbxa rfl (fun b2 => ?_)
  refine lal Try.zeroValue24 rfl (fun b3 => ?_)
  refine lnil ?_
  refine nthen ?_
  refine cseq ?_
  refine cseq ?_
  refine creg ?_
  refine l1 (mvi rfl) ?_
  refine lnil ?_
  refine nthen ?_
  refine cblock ?_
  refine cloopN 7 ?_
  refine rsucc ?_
  refine cseq ?_
  refine creg ?_
  refine l1 (lss rfl rfl) ?_
  refine lnil ?_
  refine nthen ?_
  refine cseq ?_
  refine cift rfl ?_
  refine cskip ?_
  refine nthen ?_
  refine cseq ?_
  refine cblock ?_
  refine cseq ?_
  refine creg ?_
  refine l1 (mvi rfl) ?_
  refine l1 (asgi rfl) ?_
  refine lnil ?_
  refine nthen ?_
  refine cregT 10 mo (by kernel_rfl) ?_
  refine q1 (mvi rfl) ?_
  refine q1 (mvf rfl) ?_
  refine q1 (mvi rfl) ?_
  refine q1 (ia ar24 rfl rfl (by decide) (by decide)) ?_
  refine q1 (ldc 0 Try.isAgg22 rfl rfl rfl) ?_
  refine q1 (mvi rfl) ?_
  refine q1 (ia ar24 rfl rfl (by decide) (by decide)) ?_
  refine q1 (ldc 1 Try.isAgg22 rfl rfl rfl) ?_
  refine q1 (cl hbf rfl (mc rfl (mc rfl mn)) (fun w hw => hc _ _ w)) ?_
  refine q1 (ia ar24 rfl rfl (by decide) (by decide)) ?_
  refine qtail ?_
  refine lsti 0 rfl rfl rfl Try.sizeOf22 (lb rfl) rfl ?_
  refine lnil ?_
  refine nblkN ?_
  refine nthen ?_
  refine creg ?_
  first | refine l1 (addn rfl rfl (ri (by omega) (by omega))) ?_ | refine l1 (add rfl rfl) ?_
  refine l1 (mvi rfl) ?_
  refine lnil ?_
  refine nround (rsucc ?_)
  refine cseq ?_
  refine creg ?_
  refine l1 (lss rfl rfl) ?_
  refine lnil ?_
  refine nthen ?_
  refine cseq ?_
  refine cift rfl ?_
  refine cskip ?_
  refine nthen ?_
  refine cseq ?_
  refine cblock ?_
  refine cseq ?_
  refine creg ?_
  refine l1 (mvi rfl) ?_
  refine l1 (asgi rfl) ?_
  refine lnil ?_
  refine nthen ?_
  refine cregT 10 mo (by kernel_rfl) ?_
  refine q1 (mvi rfl) ?_
  refine q1 (mvf rfl) ?_
  refine q1 (mvi rfl) ?_
  refine q1 (ia ar24 rfl rfl (by decide) (by decide)) ?_
  refine q1 (ldc 0 Try.isAgg22 rfl rfl rfl) ?_
  refine q1 (mvi rfl) ?_
  refine q1 (ia ar24 rfl rfl (by decide) (by decide)) ?_
  refine q1 (ldc 1 Try.isAgg22 rfl rfl rfl) ?_
  refine q1 (cl hbf rfl (mc rfl (mc rfl mn)) (fun w hw => hc _ _ w)) ?_
  refine q1 (ia ar24 rfl rfl (by decide) (by decide)) ?_
  refine qtail ?_
  refine lsti 0 rfl rfl rfl Try.sizeOf22 (lb rfl) rfl ?_
  refine lnil ?_
  refine nblkN ?_
  refine nthen ?_
  refine creg ?_
  first | refine l1 (addn rfl rfl (ri (by omega) (by omega))) ?_ | refine l1 (add rfl rfl) ?_
  refine l1 (mvi rfl) ?_
  refine lnil ?_
  refine nround (rsucc ?_)
  refine cseq ?_
  refine creg ?_
  refine l1 (lss rfl rfl) ?_
  refine lnil ?_
  refine nthen ?_
  refine cseq ?_
  refine cift rfl ?_
  refine cskip ?_
  refine nthen ?_
  refine cseq ?_
  refine cblock ?_
  refine cseq ?_
  refine creg ?_
  refine l1 (mvi rfl) ?_
  refine l1 (asgi rfl) ?_
  refine lnil ?_
  refine nthen ?_
  refine cregT 10 mo (by kernel_rfl) ?_
  refine q1 (mvi rfl) ?_
  refine q1 (mvf rfl) ?_
  refine q1 (mvi rfl) ?_
  refine q1 (ia ar24 rfl rfl (by decide) (by decide)) ?_
  refine q1 (ldc 0 Try.isAgg22 rfl rfl rfl) ?_
  refine q1 (mvi rfl) ?_
  refine q1 (ia ar24 rfl rfl (by decide) (by decide)) ?_
  refine q1 (ldc 1 Try.isAgg22 rfl rfl rfl) ?_
  refine q1 (cl hbf rfl (mc rfl (mc rfl mn)) (fun w hw => hc _ _ w)) ?_
  refine q1 (ia ar24 rfl rfl (by decide) (by decide)) ?_
  refine qtail ?_
  refine lsti 0 rfl rfl rfl Try.sizeOf22 (lb rfl) rfl ?_
  refine lnil ?_
  refine nblkN ?_
  refine nthen ?_
  refine creg ?_
  first | refine l1 (addn rfl rfl (ri (by omega) (by omega))) ?_ | refine l1 (add rfl rfl) ?_
  refine l1 (mvi rfl) ?_
  refine lnil ?_
  refine nround (rsucc ?_)
  refine cseq ?_
  refine creg ?_
  refine l1 (lss rfl rfl) ?_
  refine lnil ?_
  refine nthen ?_
  refine cseq ?_
  refine cift rfl ?_
  refine cskip ?_
  refine nthen ?_
  refine cseq ?_
  refine cblock ?_
  refine cseq ?_
  refine creg ?_
  refine l1 (mvi rfl) ?_
  refine l1 (asgi rfl) ?_
  refine lnil ?_
  refine nthen ?_
  refine cregT 10 mo (by kernel_rfl) ?_
  refine q1 (mvi rfl) ?_
  refine q1 (mvf rfl) ?_
  refine q1 (mvi rfl) ?_
  refine q1 (ia ar24 rfl rfl (by decide) (by decide)) ?_
  refine q1 (ldc 0 Try.isAgg22 rfl rfl rfl) ?_
  refine q1 (mvi rfl) ?_
  refine q1 (ia ar24 rfl rfl (by decide) (by decide)) ?_
  refine q1 (ldc 1 Try.isAgg22 rfl rfl rfl) ?_
  refine q1 (cl hbf rfl (mc rfl (mc rfl mn)) (fun w hw => hc _ _ w)) ?_
  refine q1 (ia ar24 rfl rfl (by decide) (by decide)) ?_
  refine qtail ?_
  refine lsti 0 rfl rfl rfl Try.sizeOf22 (lb rfl) rfl ?_
  refine lnil ?_
  refine nblkN ?_
  refine nthen ?_
  refine creg ?_
  first | refine l1 (addn rfl rfl (ri (by omega) (by omega))) ?_ | refine l1 (add rfl rfl) ?_
  refine l1 (mvi rfl) ?_
  refine lnil ?_
  refine nround (rsucc ?_)
  refine cseq ?_
  refine creg ?_
  refine l1 (lss rfl rfl) ?_
  refine lnil ?_
  refine nthen ?_
  refine cseq ?_
  refine cift rfl ?_
  refine cskip ?_
  refine nthen ?_
  refine cseq ?_
  refine cblock ?_
  refine cseq ?_
  refine creg ?_
  refine l1 (mvi rfl) ?_
  refine l1 (asgi rfl) ?_
  refine lnil ?_
  refine nthen ?_
  refine cregT 10 mo (by kernel_rfl) ?_
  refine q1 (mvi rfl) ?_
  refine q1 (mvf rfl) ?_
  refine q1 (mvi rfl) ?_
  refine q1 (ia ar24 rfl rfl (by decide) (by decide)) ?_
  refine q1 (ldc 0 Try.isAgg22 rfl rfl rfl) ?_
  refine q1 (mvi rfl) ?_
  refine q1 (ia ar24 rfl rfl (by decide) (by decide)) ?_
  refine q1 (ldc 1 Try.isAgg22 rfl rfl rfl) ?_
  refine q1 (cl hbf rfl (mc rfl (mc rfl mn)) (fun w hw => hc _ _ w)) ?_
  refine q1 (ia ar24 rfl rfl (by decide) (by decide)) ?_
  refine qtail ?_
  refine lsti 0 rfl rfl rfl Try.sizeOf22 (lb rfl) rfl ?_
  refine lnil ?_
  refine nblkN ?_
  refine nthen ?_
  refine creg ?_
  first | refine l1 (addn rfl rfl (ri (by omega) (by omega))) ?_ | refine l1 (add rfl rfl) ?_
  refine l1 (mvi rfl) ?_
  refine lnil ?_
  refine nround (rsucc ?_)
  refine cseq ?_
  refine creg ?_
  refine l1 (lss rfl rfl) ?_
  refine lnil ?_
  refine nthen ?_
  refine cseq ?_
  refine cift rfl ?_
  refine cskip ?_
  refine nthen ?_
  refine cseq ?_
  refine cblock ?_
  refine cseq ?_
  refine creg ?_
  refine l1 (mvi rfl) ?_
  refine l1 (asgi rfl) ?_
  refine lnil ?_
  refine nthen ?_
  refine cregT 10 mo (by kernel_rfl) ?_
  refine q1 (mvi rfl) ?_
  refine q1 (mvf rfl) ?_
  refine q1 (mvi rfl) ?_
  refine q1 (ia ar24 rfl rfl (by decide) (by decide)) ?_
  refine q1 (ldc 0 Try.isAgg22 rfl rfl rfl) ?_
  refine q1 (mvi rfl) ?_
  refine q1 (ia ar24 rfl rfl (by decide) (by decide)) ?_
  refine q1 (ldc 1 Try.isAgg22 rfl rfl rfl) ?_
  refine q1 (cl hbf rfl (mc rfl (mc rfl mn)) (fun w hw => hc _ _ w)) ?_
  refine q1 (ia ar24 rfl rfl (by decide) (by decide)) ?_
  refine qtail ?_
  refine lsti 0 rfl rfl rfl Try.sizeOf22 (lb rfl) rfl ?_
  refine lnil ?_
  refine nblkN ?_
  refine nthen ?_
  refine creg ?_
  first | refine l1 (addn rfl rfl (ri (by omega) (by omega))) ?_ | refine l1 (add rfl rfl) ?_
  refine l1 (mvi rfl) ?_
  refine lnil ?_
  refine nround (rsucc ?_)
  refine cseq ?_
  refine creg ?_
  refine l1 (lss rfl rfl) ?_
  refine lnil ?_
  refine nthen ?_
  refine cseq ?_
  refine ciff rfl ?_
  refine cexit ?_
  refine nthenE ?_
  refine nroundE ?_
  refine nblkE ?_
  refine nthen ?_
  refine cseq ?_
  refine creg ?_
  refine l1 (ldw 0 Try.isAgg24 Try.sizeOf24 rfl rfl rfl) ?_
  refine lstw 2 rfl rfl rfl Try.sizeOf24 rfl rfl rfl ?_
  refine lnil ?_
  refine nthen ?_
  refine cret ?_
  exact finc 2 rfl Try.isAgg24 Try.sizeOf24 rfl rfl rfl rfl

theorem join_calls (a b : Vec) (w : World) : Calls Try.prog 21 #[.agg (encV a).toArray, .agg (encV b).toArray] w (Ret (.agg (encV (eachV max a b)).toArray) w) := by
  refine fn_calls (n := 8) Try.func21 rfl rfl (lb rfl) ?_
  refine cseq ?_
  refine creg ?_
  refine lbxa rfl (fun b1 => ?_)
  refine lbxa rfl (fun b2 => ?_)
  refine lal Try.zeroValue24 rfl (fun b3 => ?_)
  refine lnil ?_
  refine nthen ?_
  refine cseq ?_
  refine creg ?_
  refine l1 (ldw 0 Try.isAgg24 Try.sizeOf24 rfl rfl rfl) ?_
  refine l1 (ldw 1 Try.isAgg24 Try.sizeOf24 rfl rfl rfl) ?_
  refine l1 (cl hb65 rfl (mc rfl (mc rfl (mc rfl mn))) (fun w hw => each_calls hb66 greater_calls _ _ w)) ?_
  refine lstw 2 rfl rfl rfl Try.sizeOf24 rfl rfl rfl ?_
  refine lnil ?_
  refine nthen ?_
  refine cret ?_
  exact finc 2 rfl Try.isAgg24 Try.sizeOf24 rfl rfl rfl rfl

theorem meet_calls (a b : Vec) (w : World) : Calls Try.prog 22 #[.agg (encV a).toArray, .agg (encV b).toArray] w (Ret (.agg (encV (eachV min a b)).toArray) w) := by
  refine fn_calls (n := 8) Try.func22 rfl rfl (lb rfl) ?_
  refine cseq ?_
  refine creg ?_
  refine lbxa rfl (fun b1 => ?_)
  refine lbxa rfl (fun b2 => ?_)
  refine lal Try.zeroValue24 rfl (fun b3 => ?_)
  refine lnil ?_
  refine nthen ?_
  refine cseq ?_
  refine creg ?_
  refine l1 (ldw 0 Try.isAgg24 Try.sizeOf24 rfl rfl rfl) ?_
  refine l1 (ldw 1 Try.isAgg24 Try.sizeOf24 rfl rfl rfl) ?_
  refine l1 (cl hb65 rfl (mc rfl (mc rfl (mc rfl mn))) (fun w hw => each_calls hb67 lesser_calls _ _ w)) ?_
  refine lstw 2 rfl rfl rfl Try.sizeOf24 rfl rfl rfl ?_
  refine lnil ?_
  refine nthen ?_
  refine cret ?_
  exact finc 2 rfl Try.isAgg24 Try.sizeOf24 rfl rfl rfl rfl

theorem great_calls (a b : Vec) (w : World) : Calls Try.prog 23 #[.agg (encV a).toArray, .agg (encV b).toArray] w (Ret (.bool (greatV a b)) w) := by
  refine fn_calls (n := 10) Try.func23 rfl rfl (lb rfl) ?_
  refine cseq ?_
  refine creg ?_
  refine lbxa rfl (fun b1 => ?_)
  refine lbxa rfl (fun b2 => ?_)
  refine l1 (asgb rfl) ?_
  refine lnil ?_
  refine nthen ?_
  refine cseq ?_
  refine cregq mo (by kernel_rfl) ?_
  refine q1 (ldw 0 Try.isAgg24 Try.sizeOf24 rfl rfl rfl) ?_
  refine q1 (ldw 1 Try.isAgg24 Try.sizeOf24 rfl rfl rfl) ?_
  refine q1 (cl hb21 rfl (mc rfl (mc rfl mn)) (fun w hw => join_calls _ _ w)) ?_
  refine q1 (ldw 0 Try.isAgg24 Try.sizeOf24 rfl rfl rfl) ?_
  refine q1 (eqla rfl rfl (fun w => eql24 _ _ w)) ?_
  refine q1 (asgb rfl) ?_
  refine qnil ?_
  refine nthen ?_
  refine cret ?_
  exact fin1 rfl rfl

theorem missing_calls (a b : Vec) (w : World) : Calls Try.prog 25 #[.agg (encV a).toArray, .agg (encV b).toArray] w (Ret (.int .u64 (missV a b)) w) := by
  refine fn_calls (n := 19) Try.func25 rfl rfl (lb rfl) ?_
  refine cseq ?_
  refine creg ?_
  refine lbxa rfl (fun b1 => ?_)
  refine lbxa rfl (fun b2 => ?_)
  refine l1 (asgi rfl) ?_
  refine lnil ?_
  refine nthen ?_
  refine cseq ?_
  refine creg ?_
  refine l1 (asgi rfl) ?_
  refine lnil ?_
  refine nthen ?_
  refine cseq ?_
  refine cseq ?_
  refine creg ?_
  refine l1 (ldw 0 Try.isAgg24 Try.sizeOf24 rfl rfl rfl) ?_
  refine l1 (ldw 1 Try.isAgg24 Try.sizeOf24 rfl rfl rfl) ?_
  refine l1 (cl hb65 rfl (mc rfl (mc rfl (mc rfl mn))) (fun w hw => each_calls hb68 more_calls _ _ w)) ?_
  refine l1 (mvi rfl) ?_
  refine lnil ?_
  refine nthen ?_
  refine cblock ?_
  refine cloopN 7 ?_
  refine rsucc ?_
  refine cseq ?_
  refine creg ?_
  refine l1 (lss rfl rfl) ?_
  refine lnil ?_
  refine nthen ?_
  refine cseq ?_
  refine cift rfl ?_
  refine cskip ?_
  refine nthen ?_
  refine cseq ?_
  refine cblock ?_
  refine cseq ?_
  refine creg ?_
  refine l1 (ixv Try.underlying24 Try.sizeOf22 Try.isAgg22 rfl rfl (by decide) (by decide) rfl) ?_
  refine l1 (asgi rfl) ?_
  refine lnil ?_
  refine nthen ?_
  refine creg ?_
  refine l1 (mvi rfl) ?_
  refine l1 (mvi rfl) ?_
  first | refine l1 (addn rfl rfl (ru (by omega) (by omega))) ?_ | refine l1 (add rfl rfl) ?_
  refine l1 (asgi rfl) ?_
  refine lnil ?_
  refine nblkN ?_
  refine nthen ?_
  refine creg ?_
  first | refine l1 (addn rfl rfl (ri (by omega) (by omega))) ?_ | refine l1 (add rfl rfl) ?_
  refine l1 (mvi rfl) ?_
  refine lnil ?_
  refine nround (rsucc ?_)
  refine cseq ?_
  refine creg ?_
  refine l1 (lss rfl rfl) ?_
  refine lnil ?_
  refine nthen ?_
  refine cseq ?_
  refine cift rfl ?_
  refine cskip ?_
  refine nthen ?_
  refine cseq ?_
  refine cblock ?_
  refine cseq ?_
  refine creg ?_
  refine l1 (ixv Try.underlying24 Try.sizeOf22 Try.isAgg22 rfl rfl (by decide) (by decide) rfl) ?_
  refine l1 (asgi rfl) ?_
  refine lnil ?_
  refine nthen ?_
  refine creg ?_
  refine l1 (mvi rfl) ?_
  refine l1 (mvi rfl) ?_
  first | refine l1 (addn rfl rfl (ru (by omega) (by omega))) ?_ | refine l1 (add rfl rfl) ?_
  refine l1 (asgi rfl) ?_
  refine lnil ?_
  refine nblkN ?_
  refine nthen ?_
  refine creg ?_
  first | refine l1 (addn rfl rfl (ri (by omega) (by omega))) ?_ | refine l1 (add rfl rfl) ?_
  refine l1 (mvi rfl) ?_
  refine lnil ?_
  refine nround (rsucc ?_)
  refine cseq ?_
  refine creg ?_
  refine l1 (lss rfl rfl) ?_
  refine lnil ?_
  refine nthen ?_
  refine cseq ?_
  refine cift rfl ?_
  refine cskip ?_
  refine nthen ?_
  refine cseq ?_
  refine cblock ?_
  refine cseq ?_
  refine creg ?_
  refine l1 (ixv Try.underlying24 Try.sizeOf22 Try.isAgg22 rfl rfl (by decide) (by decide) rfl) ?_
  refine l1 (asgi rfl) ?_
  refine lnil ?_
  refine nthen ?_
  refine creg ?_
  refine l1 (mvi rfl) ?_
  refine l1 (mvi rfl) ?_
  first | refine l1 (addn rfl rfl (ru (by omega) (by omega))) ?_ | refine l1 (add rfl rfl) ?_
  refine l1 (asgi rfl) ?_
  refine lnil ?_
  refine nblkN ?_
  refine nthen ?_
  refine creg ?_
  first | refine l1 (addn rfl rfl (ri (by omega) (by omega))) ?_ | refine l1 (add rfl rfl) ?_
  refine l1 (mvi rfl) ?_
  refine lnil ?_
  refine nround (rsucc ?_)
  refine cseq ?_
  refine creg ?_
  refine l1 (lss rfl rfl) ?_
  refine lnil ?_
  refine nthen ?_
  refine cseq ?_
  refine cift rfl ?_
  refine cskip ?_
  refine nthen ?_
  refine cseq ?_
  refine cblock ?_
  refine cseq ?_
  refine creg ?_
  refine l1 (ixv Try.underlying24 Try.sizeOf22 Try.isAgg22 rfl rfl (by decide) (by decide) rfl) ?_
  refine l1 (asgi rfl) ?_
  refine lnil ?_
  refine nthen ?_
  refine creg ?_
  refine l1 (mvi rfl) ?_
  refine l1 (mvi rfl) ?_
  first | refine l1 (addn rfl rfl (ru (by omega) (by omega))) ?_ | refine l1 (add rfl rfl) ?_
  refine l1 (asgi rfl) ?_
  refine lnil ?_
  refine nblkN ?_
  refine nthen ?_
  refine creg ?_
  first | refine l1 (addn rfl rfl (ri (by omega) (by omega))) ?_ | refine l1 (add rfl rfl) ?_
  refine l1 (mvi rfl) ?_
  refine lnil ?_
  refine nround (rsucc ?_)
  refine cseq ?_
  refine creg ?_
  refine l1 (lss rfl rfl) ?_
  refine lnil ?_
  refine nthen ?_
  refine cseq ?_
  refine cift rfl ?_
  refine cskip ?_
  refine nthen ?_
  refine cseq ?_
  refine cblock ?_
  refine cseq ?_
  refine creg ?_
  refine l1 (ixv Try.underlying24 Try.sizeOf22 Try.isAgg22 rfl rfl (by decide) (by decide) rfl) ?_
  refine l1 (asgi rfl) ?_
  refine lnil ?_
  refine nthen ?_
  refine creg ?_
  refine l1 (mvi rfl) ?_
  refine l1 (mvi rfl) ?_
  first | refine l1 (addn rfl rfl (ru (by omega) (by omega))) ?_ | refine l1 (add rfl rfl) ?_
  refine l1 (asgi rfl) ?_
  refine lnil ?_
  refine nblkN ?_
  refine nthen ?_
  refine creg ?_
  first | refine l1 (addn rfl rfl (ri (by omega) (by omega))) ?_ | refine l1 (add rfl rfl) ?_
  refine l1 (mvi rfl) ?_
  refine lnil ?_
  refine nround (rsucc ?_)
  refine cseq ?_
  refine creg ?_
  refine l1 (lss rfl rfl) ?_
  refine lnil ?_
  refine nthen ?_
  refine cseq ?_
  refine cift rfl ?_
  refine cskip ?_
  refine nthen ?_
  refine cseq ?_
  refine cblock ?_
  refine cseq ?_
  refine creg ?_
  refine l1 (ixv Try.underlying24 Try.sizeOf22 Try.isAgg22 rfl rfl (by decide) (by decide) rfl) ?_
  refine l1 (asgi rfl) ?_
  refine lnil ?_
  refine nthen ?_
  refine creg ?_
  refine l1 (mvi rfl) ?_
  refine l1 (mvi rfl) ?_
  first | refine l1 (addn rfl rfl (ru (by omega) (by omega))) ?_ | refine l1 (add rfl rfl) ?_
  refine l1 (asgi rfl) ?_
  refine lnil ?_
  refine nblkN ?_
  refine nthen ?_
  refine creg ?_
  first | refine l1 (addn rfl rfl (ri (by omega) (by omega))) ?_ | refine l1 (add rfl rfl) ?_
  refine l1 (mvi rfl) ?_
  refine lnil ?_
  refine nround (rsucc ?_)
  refine cseq ?_
  refine creg ?_
  refine l1 (lss rfl rfl) ?_
  refine lnil ?_
  refine nthen ?_
  refine cseq ?_
  refine ciff rfl ?_
  refine cexit ?_
  refine nthenE ?_
  refine nroundE ?_
  refine nblkE ?_
  refine nthen ?_
  refine cseq ?_
  refine creg ?_
  refine l1 (mvi rfl) ?_
  refine l1 (asgi rfl) ?_
  refine lnil ?_
  refine nthen ?_
  refine cret ?_
  exact fin1 rfl rfl

theorem total_calls (a : Vec) (w : World) : Calls Try.prog 27 #[.agg (encV a).toArray] w (Ret (.int .u64 (totV a)) w) := by
  refine fn_calls (n := 16) Try.func27 rfl rfl (lb rfl) ?_
  refine cseq ?_
  refine creg ?_
  refine lbxa rfl (fun b1 => ?_)
  refine l1 (asgi rfl) ?_
  refine lnil ?_
  refine nthen ?_
  refine cseq ?_
  refine creg ?_
  refine l1 (asgi rfl) ?_
  refine lnil ?_
  refine nthen ?_
  refine cseq ?_
  refine cseq ?_
  refine creg ?_
  refine l1 (ldw 0 Try.isAgg24 Try.sizeOf24 rfl rfl rfl) ?_
  refine l1 (mvi rfl) ?_
  refine lnil ?_
  refine nthen ?_
  refine cblock ?_
  refine cloopN 7 ?_
  refine rsucc ?_
  refine cseq ?_
  refine creg ?_
  refine l1 (lss rfl rfl) ?_
  refine lnil ?_
  refine nthen ?_
  refine cseq ?_
  refine cift rfl ?_
  refine cskip ?_
  refine nthen ?_
  refine cseq ?_
  refine cblock ?_
  refine cseq ?_
  refine creg ?_
  refine l1 (ixv Try.underlying24 Try.sizeOf22 Try.isAgg22 rfl rfl (by decide) (by decide) rfl) ?_
  refine l1 (asgi rfl) ?_
  refine lnil ?_
  refine nthen ?_
  refine creg ?_
  refine l1 (mvi rfl) ?_
  refine l1 (mvi rfl) ?_
  refine l1 (min2 rfl rfl) ?_
  first | refine l1 (addn rfl rfl (ru (by omega) (by omega))) ?_ | refine l1 (add rfl rfl) ?_
  refine l1 (asgi rfl) ?_
  refine lnil ?_
  refine nblkN ?_
  refine nthen ?_
  refine creg ?_
  first | refine l1 (addn rfl rfl (ri (by omega) (by omega))) ?_ | refine l1 (add rfl rfl) ?_
  refine l1 (mvi rfl) ?_
  refine lnil ?_
  refine nround (rsucc ?_)
  refine cseq ?_
  refine creg ?_
  refine l1 (lss rfl rfl) ?_
  refine lnil ?_
  refine nthen ?_
  refine cseq ?_
  refine cift rfl ?_
  refine cskip ?_
  refine nthen ?_
  refine cseq ?_
  refine cblock ?_
  refine cseq ?_
  refine creg ?_
  refine l1 (ixv Try.underlying24 Try.sizeOf22 Try.isAgg22 rfl rfl (by decide) (by decide) rfl) ?_
  refine l1 (asgi rfl) ?_
  refine lnil ?_
  refine nthen ?_
  refine creg ?_
  refine l1 (mvi rfl) ?_
  refine l1 (mvi rfl) ?_
  refine l1 (min2 rfl rfl) ?_
  first | refine l1 (addn rfl rfl (ru (by omega) (by omega))) ?_ | refine l1 (add rfl rfl) ?_
  refine l1 (asgi rfl) ?_
  refine lnil ?_
  refine nblkN ?_
  refine nthen ?_
  refine creg ?_
  first | refine l1 (addn rfl rfl (ri (by omega) (by omega))) ?_ | refine l1 (add rfl rfl) ?_
  refine l1 (mvi rfl) ?_
  refine lnil ?_
  refine nround (rsucc ?_)
  refine cseq ?_
  refine creg ?_
  refine l1 (lss rfl rfl) ?_
  refine lnil ?_
  refine nthen ?_
  refine cseq ?_
  refine cift rfl ?_
  refine cskip ?_
  refine nthen ?_
  refine cseq ?_
  refine cblock ?_
  refine cseq ?_
  refine creg ?_
  refine l1 (ixv Try.underlying24 Try.sizeOf22 Try.isAgg22 rfl rfl (by decide) (by decide) rfl) ?_
  refine l1 (asgi rfl) ?_
  refine lnil ?_
  refine nthen ?_
  refine creg ?_
  refine l1 (mvi rfl) ?_
  refine l1 (mvi rfl) ?_
  refine l1 (min2 rfl rfl) ?_
  first | refine l1 (addn rfl rfl (ru (by omega) (by omega))) ?_ | refine l1 (add rfl rfl) ?_
  refine l1 (asgi rfl) ?_
  refine lnil ?_
  refine nblkN ?_
  refine nthen ?_
  refine creg ?_
  first | refine l1 (addn rfl rfl (ri (by omega) (by omega))) ?_ | refine l1 (add rfl rfl) ?_
  refine l1 (mvi rfl) ?_
  refine lnil ?_
  refine nround (rsucc ?_)
  refine cseq ?_
  refine creg ?_
  refine l1 (lss rfl rfl) ?_
  refine lnil ?_
  refine nthen ?_
  refine cseq ?_
  refine cift rfl ?_
  refine cskip ?_
  refine nthen ?_
  refine cseq ?_
  refine cblock ?_
  refine cseq ?_
  refine creg ?_
  refine l1 (ixv Try.underlying24 Try.sizeOf22 Try.isAgg22 rfl rfl (by decide) (by decide) rfl) ?_
  refine l1 (asgi rfl) ?_
  refine lnil ?_
  refine nthen ?_
  refine creg ?_
  refine l1 (mvi rfl) ?_
  refine l1 (mvi rfl) ?_
  refine l1 (min2 rfl rfl) ?_
  first | refine l1 (addn rfl rfl (ru (by omega) (by omega))) ?_ | refine l1 (add rfl rfl) ?_
  refine l1 (asgi rfl) ?_
  refine lnil ?_
  refine nblkN ?_
  refine nthen ?_
  refine creg ?_
  first | refine l1 (addn rfl rfl (ri (by omega) (by omega))) ?_ | refine l1 (add rfl rfl) ?_
  refine l1 (mvi rfl) ?_
  refine lnil ?_
  refine nround (rsucc ?_)
  refine cseq ?_
  refine creg ?_
  refine l1 (lss rfl rfl) ?_
  refine lnil ?_
  refine nthen ?_
  refine cseq ?_
  refine cift rfl ?_
  refine cskip ?_
  refine nthen ?_
  refine cseq ?_
  refine cblock ?_
  refine cseq ?_
  refine creg ?_
  refine l1 (ixv Try.underlying24 Try.sizeOf22 Try.isAgg22 rfl rfl (by decide) (by decide) rfl) ?_
  refine l1 (asgi rfl) ?_
  refine lnil ?_
  refine nthen ?_
  refine creg ?_
  refine l1 (mvi rfl) ?_
  refine l1 (mvi rfl) ?_
  refine l1 (min2 rfl rfl) ?_
  first | refine l1 (addn rfl rfl (ru (by omega) (by omega))) ?_ | refine l1 (add rfl rfl) ?_
  refine l1 (asgi rfl) ?_
  refine lnil ?_
  refine nblkN ?_
  refine nthen ?_
  refine creg ?_
  first | refine l1 (addn rfl rfl (ri (by omega) (by omega))) ?_ | refine l1 (add rfl rfl) ?_
  refine l1 (mvi rfl) ?_
  refine lnil ?_
  refine nround (rsucc ?_)
  refine cseq ?_
  refine creg ?_
  refine l1 (lss rfl rfl) ?_
  refine lnil ?_
  refine nthen ?_
  refine cseq ?_
  refine cift rfl ?_
  refine cskip ?_
  refine nthen ?_
  refine cseq ?_
  refine cblock ?_
  refine cseq ?_
  refine creg ?_
  refine l1 (ixv Try.underlying24 Try.sizeOf22 Try.isAgg22 rfl rfl (by decide) (by decide) rfl) ?_
  refine l1 (asgi rfl) ?_
  refine lnil ?_
  refine nthen ?_
  refine creg ?_
  refine l1 (mvi rfl) ?_
  refine l1 (mvi rfl) ?_
  refine l1 (min2 rfl rfl) ?_
  first | refine l1 (addn rfl rfl (ru (by omega) (by omega))) ?_ | refine l1 (add rfl rfl) ?_
  refine l1 (asgi rfl) ?_
  refine lnil ?_
  refine nblkN ?_
  refine nthen ?_
  refine creg ?_
  first | refine l1 (addn rfl rfl (ri (by omega) (by omega))) ?_ | refine l1 (add rfl rfl) ?_
  refine l1 (mvi rfl) ?_
  refine lnil ?_
  refine nround (rsucc ?_)
  refine cseq ?_
  refine creg ?_
  refine l1 (lss rfl rfl) ?_
  refine lnil ?_
  refine nthen ?_
  refine cseq ?_
  refine ciff rfl ?_
  refine cexit ?_
  refine nthenE ?_
  refine nroundE ?_
  refine nblkE ?_
  refine nthen ?_
  refine cseq ?_
  refine creg ?_
  refine l1 (mvi rfl) ?_
  refine l1 (asgi rfl) ?_
  refine lnil ?_
  refine nthen ?_
  refine cret ?_
  exact fin1 rfl rfl

theorem bk24a : ∀ w, (Go.Instr.build 24 #[(0, .int .u64 1), (1, .int .u64 2)]).run Try.prog w = .ok (.agg (encV (fun i => bif Nat.beq i 0 then 1 else bif Nat.beq i 1 then 2 else 0)).toArray) w := fun w => by kernel_rfl
theorem bk24b : ∀ w, (Go.Instr.build 24 #[(0, .int .u64 1)]).run Try.prog w = .ok (.agg (encV (fun i => bif Nat.beq i 0 then 1 else 0)).toArray) w := fun w => by kernel_rfl
theorem bk24z : ∀ w, (Go.Instr.build 24 #[]).run Try.prog w = .ok (.agg (encV (fun i => 0)).toArray) w := fun w => by kernel_rfl

theorem awake14_calls  (w : World) : Calls Try.prog 24 #[] w (Ret (.bool true) w) := by
  refine fn_calls (n := 10) Try.func24 rfl rfl (lb rfl) ?_
  refine cseq ?_
  refine creg ?_
  refine l1 (asgb rfl) ?_
  refine lnil ?_
  refine nthen ?_
  refine cseq ?_
  refine creg ?_
  refine l1 (bld0 bk24z) ?_
  refine l1 (bldk rfl bk24a) ?_
  refine l1 (cl hb25 rfl (mc rfl (mc rfl mn)) (fun w hw => missing_calls _ _ w)) ?_
  refine l1 (eql rfl rfl) ?_
  refine l1 (mvb rfl) ?_
  refine l1g rfl (gwt rfl) (fun h => bldk rfl bk24b) ?_
  refine l1g rfl (gwt rfl) (fun h => bld0 bk24z) ?_
  refine l1g rfl (gwt rfl) (fun h => cl hb23 rfl (mc (gvt h) (mc (gvt h) mn)) (fun w hw => great_calls _ _ w)) ?_
  refine l1 (pk_and rfl rfl rfl) ?_
  refine l1 (asgb rfl) ?_
  refine lnil ?_
  refine nthen ?_
  refine cret ?_
  exact fin1 rfl rfl

theorem rgreat_calls (a b : Vec) (w : World) : Calls Try.prog 26 #[.agg (encV a).toArray, .agg (encV b).toArray] w (Ret (.bool (rgreatV a b)) w) := by
  refine fn_calls (n := 17) Try.func26 rfl rfl (lb rfl) ?_
  refine cseq ?_
  refine creg ?_
  refine lbxa rfl (fun b1 => ?_)
  refine lbxa rfl (fun b2 => ?_)
  refine l1 (asgb rfl) ?_
  refine lnil ?_
  refine nthen ?_
  refine cseq ?_
  refine cseq ?_
  refine creg ?_
  refine l1 (asgi rfl) ?_
  refine lnil ?_
  refine nthen ?_
  refine cblock ?_
  refine cloopN 7 ?_
  refine rsucc ?_
  refine cseq ?_
  refine cseq ?_
  refine creg ?_
  refine l1 (mvi rfl) ?_
  refine l1 (lss rfl rfl) ?_
  refine lnil ?_
  refine nthen ?_
  refine cift rfl ?_
  refine cskip ?_
  refine nthen ?_
  refine cseq ?_
  refine cblock ?_
  refine cseq ?_
  refine cregq mo (by kernel_rfl) ?_
  refine q1 (mvi rfl) ?_
  refine q1 (ia ar24 rfl rfl (by decide) (by decide)) ?_
  refine q1 (ldc 0 Try.isAgg22 rfl rfl rfl) ?_
  refine q1 (mvi rfl) ?_
  refine q1 (ia ar24 rfl rfl (by decide) (by decide)) ?_
  refine q1 (ldc 1 Try.isAgg22 rfl rfl rfl) ?_
  refine q1 (lss rfl rfl) ?_
  refine qnil ?_
  refine nthen ?_
  refine cif rfl (fun h1 => ?_) (fun h1 => ?_)
  · skip
    refine cseq ?_
    refine creg ?_
    refine l1 (asgb rfl) ?_
    refine lnil ?_
    refine nthen ?_
    refine cret ?_
    refine nblkR ?_
    refine nthenR ?_
    refine nroundR ?_
    refine nblkR ?_
    refine nthenR ?_
    exact fin1b rfl rfl (by first | rfl | (simp only [rgreatV, h1, cond_true, cond_false]; done))
  · skip
    refine cskip ?_
    refine nblkN ?_
    refine nthen ?_
    refine creg ?_
    refine l1 (mvi rfl) ?_
    first | refine l1 (addn rfl rfl (ri (by omega) (by omega))) ?_ | refine l1 (add rfl rfl) ?_
    refine l1 (asgi rfl) ?_
    refine lnil ?_
    refine nround (rsucc ?_)
    refine cseq ?_
    refine cseq ?_
    refine creg ?_
    refine l1 (mvi rfl) ?_
    refine l1 (lss rfl rfl) ?_
    refine lnil ?_
    refine nthen ?_
    refine cift rfl ?_
    refine cskip ?_
    refine nthen ?_
    refine cseq ?_
    refine cblock ?_
    refine cseq ?_
    refine cregq mo (by kernel_rfl) ?_
    refine q1 (mvi rfl) ?_
    refine q1 (ia ar24 rfl rfl (by decide) (by decide)) ?_
    refine q1 (ldc 0 Try.isAgg22 rfl rfl rfl) ?_
    refine q1 (mvi rfl) ?_
    refine q1 (ia ar24 rfl rfl (by decide) (by decide)) ?_
    refine q1 (ldc 1 Try.isAgg22 rfl rfl rfl) ?_
    refine q1 (lss rfl rfl) ?_
    refine qnil ?_
    refine nthen ?_
    refine cif rfl (fun h2 => ?_) (fun h2 => ?_)
    · skip
      refine cseq ?_
      refine creg ?_
      refine l1 (asgb rfl) ?_
      refine lnil ?_
      refine nthen ?_
      refine cret ?_
      refine nblkR ?_
      refine nthenR ?_
      refine nroundR ?_
      refine nblkR ?_
      refine nthenR ?_
      exact fin1b rfl rfl (by first | rfl | (simp only [rgreatV, h1, h2, cond_true, cond_false]; done))
    · skip
      refine cskip ?_
      refine nblkN ?_
      refine nthen ?_
      refine creg ?_
      refine l1 (mvi rfl) ?_
      first | refine l1 (addn rfl rfl (ri (by omega) (by omega))) ?_ | refine l1 (add rfl rfl) ?_
      refine l1 (asgi rfl) ?_
      refine lnil ?_
      refine nround (rsucc ?_)
      refine cseq ?_
      refine cseq ?_
      refine creg ?_
      refine l1 (mvi rfl) ?_
      refine l1 (lss rfl rfl) ?_
      refine lnil ?_
      refine nthen ?_
      refine cift rfl ?_
      refine cskip ?_
      refine nthen ?_
      refine cseq ?_
      refine cblock ?_
      refine cseq ?_
      refine cregq mo (by kernel_rfl) ?_
      refine q1 (mvi rfl) ?_
      refine q1 (ia ar24 rfl rfl (by decide) (by decide)) ?_
      refine q1 (ldc 0 Try.isAgg22 rfl rfl rfl) ?_
      refine q1 (mvi rfl) ?_
      refine q1 (ia ar24 rfl rfl (by decide) (by decide)) ?_
      refine q1 (ldc 1 Try.isAgg22 rfl rfl rfl) ?_
      refine q1 (lss rfl rfl) ?_
      refine qnil ?_
      refine nthen ?_
      refine cif rfl (fun h3 => ?_) (fun h3 => ?_)
      · skip
        refine cseq ?_
        refine creg ?_
        refine l1 (asgb rfl) ?_
        refine lnil ?_
        refine nthen ?_
        refine cret ?_
        refine nblkR ?_
        refine nthenR ?_
        refine nroundR ?_
        refine nblkR ?_
        refine nthenR ?_
        exact fin1b rfl rfl (by first | rfl | (simp only [rgreatV, h1, h2, h3, cond_true, cond_false]; done))
      · skip
        refine cskip ?_
        refine nblkN ?_
        refine nthen ?_
        refine creg ?_
        refine l1 (mvi rfl) ?_
        first | refine l1 (addn rfl rfl (ri (by omega) (by omega))) ?_ | refine l1 (add rfl rfl) ?_
        refine l1 (asgi rfl) ?_
        refine lnil ?_
        refine nround (rsucc ?_)
        refine cseq ?_
        refine cseq ?_
        refine creg ?_
        refine l1 (mvi rfl) ?_
        refine l1 (lss rfl rfl) ?_
        refine lnil ?_
        refine nthen ?_
        refine cift rfl ?_
        refine cskip ?_
        refine nthen ?_
        refine cseq ?_
        refine cblock ?_
        refine cseq ?_
        refine cregq mo (by kernel_rfl) ?_
        refine q1 (mvi rfl) ?_
        refine q1 (ia ar24 rfl rfl (by decide) (by decide)) ?_
        refine q1 (ldc 0 Try.isAgg22 rfl rfl rfl) ?_
        refine q1 (mvi rfl) ?_
        refine q1 (ia ar24 rfl rfl (by decide) (by decide)) ?_
        refine q1 (ldc 1 Try.isAgg22 rfl rfl rfl) ?_
        refine q1 (lss rfl rfl) ?_
        refine qnil ?_
        refine nthen ?_
        refine cif rfl (fun h4 => ?_) (fun h4 => ?_)
        · skip
          refine cseq ?_
          refine creg ?_
          refine l1 (asgb rfl) ?_
          refine lnil ?_
          refine nthen ?_
          refine cret ?_
          refine nblkR ?_
          refine nthenR ?_
          refine nroundR ?_
          refine nblkR ?_
          refine nthenR ?_
          exact fin1b rfl rfl (by first | rfl | (simp only [rgreatV, h1, h2, h3, h4, cond_true, cond_false]; done))
        · skip
          refine cskip ?_
          refine nblkN ?_
          refine nthen ?_
          refine creg ?_
          refine l1 (mvi rfl) ?_
          first | refine l1 (addn rfl rfl (ri (by omega) (by omega))) ?_ | refine l1 (add rfl rfl) ?_
          refine l1 (asgi rfl) ?_
          refine lnil ?_
          refine nround (rsucc ?_)
          refine cseq ?_
          refine cseq ?_
          refine creg ?_
          refine l1 (mvi rfl) ?_
          refine l1 (lss rfl rfl) ?_
          refine lnil ?_
          refine nthen ?_
          refine cift rfl ?_
          refine cskip ?_
          refine nthen ?_
          refine cseq ?_
          refine cblock ?_
          refine cseq ?_
          refine cregq mo (by kernel_rfl) ?_
          refine q1 (mvi rfl) ?_
          refine q1 (ia ar24 rfl rfl (by decide) (by decide)) ?_
          refine q1 (ldc 0 Try.isAgg22 rfl rfl rfl) ?_
          refine q1 (mvi rfl) ?_
          refine q1 (ia ar24 rfl rfl (by decide) (by decide)) ?_
          refine q1 (ldc 1 Try.isAgg22 rfl rfl rfl) ?_
          refine q1 (lss rfl rfl) ?_
          refine qnil ?_
          refine nthen ?_
          refine cif rfl (fun h5 => ?_) (fun h5 => ?_)
          · skip
            refine cseq ?_
            refine creg ?_
            refine l1 (asgb rfl) ?_
            refine lnil ?_
            refine nthen ?_
            refine cret ?_
            refine nblkR ?_
            refine nthenR ?_
            refine nroundR ?_
            refine nblkR ?_
            refine nthenR ?_
            exact fin1b rfl rfl (by first | rfl | (simp only [rgreatV, h1, h2, h3, h4, h5, cond_true, cond_false]; done))
          · skip
            refine cskip ?_
            refine nblkN ?_
            refine nthen ?_
            refine creg ?_
            refine l1 (mvi rfl) ?_
            first | refine l1 (addn rfl rfl (ri (by omega) (by omega))) ?_ | refine l1 (add rfl rfl) ?_
            refine l1 (asgi rfl) ?_
            refine lnil ?_
            refine nround (rsucc ?_)
            refine cseq ?_
            refine cseq ?_
            refine creg ?_
            refine l1 (mvi rfl) ?_
            refine l1 (lss rfl rfl) ?_
            refine lnil ?_
            refine nthen ?_
            refine cift rfl ?_
            refine cskip ?_
            refine nthen ?_
            refine cseq ?_
            refine cblock ?_
            refine cseq ?_
            refine cregq mo (by kernel_rfl) ?_
            refine q1 (mvi rfl) ?_
            refine q1 (ia ar24 rfl rfl (by decide) (by decide)) ?_
            refine q1 (ldc 0 Try.isAgg22 rfl rfl rfl) ?_
            refine q1 (mvi rfl) ?_
            refine q1 (ia ar24 rfl rfl (by decide) (by decide)) ?_
            refine q1 (ldc 1 Try.isAgg22 rfl rfl rfl) ?_
            refine q1 (lss rfl rfl) ?_
            refine qnil ?_
            refine nthen ?_
            refine cif rfl (fun h6 => ?_) (fun h6 => ?_)
            · skip
              refine cseq ?_
              refine creg ?_
              refine l1 (asgb rfl) ?_
              refine lnil ?_
              refine nthen ?_
              refine cret ?_
              refine nblkR ?_
              refine nthenR ?_
              refine nroundR ?_
              refine nblkR ?_
              refine nthenR ?_
              exact fin1b rfl rfl (by first | rfl | (simp only [rgreatV, h1, h2, h3, h4, h5, h6, cond_true, cond_false]; done))
            · skip
              refine cskip ?_
              refine nblkN ?_
              refine nthen ?_
              refine creg ?_
              refine l1 (mvi rfl) ?_
              first | refine l1 (addn rfl rfl (ri (by omega) (by omega))) ?_ | refine l1 (add rfl rfl) ?_
              refine l1 (asgi rfl) ?_
              refine lnil ?_
              refine nround (rsucc ?_)
              refine cseq ?_
              refine cseq ?_
              refine creg ?_
              refine l1 (mvi rfl) ?_
              refine l1 (lss rfl rfl) ?_
              refine lnil ?_
              refine nthen ?_
              refine ciff rfl ?_
              refine cexit ?_
              refine nthenE ?_
              refine nroundE ?_
              refine nblkE ?_
              refine nthen ?_
              refine cseq ?_
              refine creg ?_
              refine l1 (asgb rfl) ?_
              refine lnil ?_
              refine nthen ?_
              refine cret ?_
              exact fin1b rfl rfl (by first | rfl | (simp only [rgreatV, h1, h2, h3, h4, h5, h6, cond_true, cond_false]; done))

set_option maxHeartbeats 4000000 in
theorem joins_law (a b c : Vec) (w : World) : Calls Try.prog 3 #[.agg (encV a).toArray, .agg (encV b).toArray, .agg (encV c).toArray] w (Ret (.bool true) w) := by
  refine fn_calls (n := 65) Try.func3 rfl rfl (lb rfl) ?_
  refine cseq ?_
  refine creg ?_
  refine lbxa rfl (fun b1 => ?_)
  refine lbxa rfl (fun b2 => ?_)
  refine lbxa rfl (fun b3 => ?_)
  refine l1 (asgb rfl) ?_
  refine lnil ?_
  refine nthen ?_
  refine cseq ?_
  refine cregE2 (Eff.mk 6 7 24 [.int .u64 0, .int .u64 0, .int .u64 0, .int .u64 0, .int .u64 0, .int .u64 0] 8 (.tmp 12) (encV (eachV max a b))) (Eff.mk 7 8 24 [.int .u64 0, .int .u64 0, .int .u64 0, .int .u64 0, .int .u64 0, .int .u64 0] 9 (.tmp 15) (encV (eachV min a b))) mo (by kernel_rfl) (by kernel_rfl) ⟨⟨_, _, _, rfl⟩, ⟨_, _, _, rfl, af_any (by kernel_rfl)⟩, ⟨_, Try.zeroValue24, rfl⟩, Try.sizeOf24, rfl, oneA rfl⟩ ⟨⟨_, _, _, rfl⟩, ⟨_, _, _, rfl, af_any (by kernel_rfl)⟩, ⟨_, Try.zeroValue24, rfl⟩, Try.sizeOf24, rfl, oneA rfl⟩ (by kernel_rfl) (by kernel_rfl) (by kernel_rfl) (by kernel_rfl) rfl rfl ?_
  refine t1 rfl (fun T => ldw 0 Try.isAgg24 Try.sizeOf24 rfl rfl rfl) ?_
  refine t1 rfl (fun T => ldw 1 Try.isAgg24 Try.sizeOf24 rfl rfl rfl) ?_
  refine t1 rfl (fun T => cl hb21 rfl (mc rfl (mc rfl mn)) (fun w hw => join_calls _ _ w)) ?_
  refine t1 rfl (fun T => ldw 0 Try.isAgg24 Try.sizeOf24 rfl rfl rfl) ?_
  refine t1 rfl (fun T => ldw 1 Try.isAgg24 Try.sizeOf24 rfl rfl rfl) ?_
  refine t1 rfl (fun T => cl hb22 rfl (mc rfl (mc rfl mn)) (fun w hw => meet_calls _ _ w)) ?_
  refine te 0 rfl rfl ?_
  refine te 1 rfl rfl ?_
  refine ts 0 rfl rfl rfl ?_
  refine ts 1 rfl rfl rfl ?_
  refine tnil ?_
  intro b4 b5
  refine nthen ?_
  refine cseq ?_
  refine creg ?_
  refine l1 (ldw 2 Try.isAgg24 Try.sizeOf24 rfl rfl rfl) ?_
  refine l1 (ldw 0 Try.isAgg24 Try.sizeOf24 rfl rfl rfl) ?_
  refine l1 (cl hb23 rfl (mc rfl (mc rfl mn)) (fun w hw => great_calls _ _ w)) ?_
  refine l1 (mvb rfl) ?_
  refine l1g rfl (gwt rfl) (fun h => ldw 2 Try.isAgg24 Try.sizeOf24 rfl rfl rfl) ?_
  refine l1g rfl (gwt rfl) (fun h => ldw 1 Try.isAgg24 Try.sizeOf24 rfl rfl rfl) ?_
  refine l1g rfl (gwt rfl) (fun h => cl hb23 rfl (mc (gvt h) (mc (gvt h) mn)) (fun w hw => great_calls _ _ w)) ?_
  refine l1 (pk_and rfl rfl rfl) ?_
  refine l1 (asgb rfl) ?_
  refine lnil ?_
  refine nthen ?_
  refine cseq ?_
  refine cregq mo (by kernel_rfl) ?_
  refine q1 (cl hb24 rfl mn (fun w hw => awake14_calls w)) ?_
  refine q1 (mvb rfl) ?_
  refine q1g rfl (gwt rfl) (fun h => ldw 3 Try.isAgg24 Try.sizeOf24 rfl rfl rfl) ?_
  refine q1g rfl (gwt rfl) (fun h => ldw 0 Try.isAgg24 Try.sizeOf24 rfl rfl rfl) ?_
  refine q1g rfl (gwt rfl) (fun h => cl hb23 rfl (mc (gvt h) (mc (gvt h) mn)) (fun w hw => great_calls _ _ w)) ?_
  refine q1 (pk_and rfl rfl rfl) ?_
  refine q1 (mvb rfl) ?_
  refine q1g rfl (gwt rfl) (fun h => ldw 3 Try.isAgg24 Try.sizeOf24 rfl rfl rfl) ?_
  refine q1g rfl (gwt rfl) (fun h => ldw 1 Try.isAgg24 Try.sizeOf24 rfl rfl rfl) ?_
  refine q1g rfl (gwt rfl) (fun h => cl hb23 rfl (mc (gvt h) (mc (gvt h) mn)) (fun w hw => great_calls _ _ w)) ?_
  refine q1 (pk_and rfl rfl rfl) ?_
  refine q1 (mvb rfl) ?_
  refine q1g rfl (gwt rfl) (fun h => ldw 0 Try.isAgg24 Try.sizeOf24 rfl rfl rfl) ?_
  refine q1g rfl (gwt rfl) (fun h => ldw 4 Try.isAgg24 Try.sizeOf24 rfl rfl rfl) ?_
  refine q1g rfl (gwt rfl) (fun h => cl hb23 rfl (mc (gvt h) (mc (gvt h) mn)) (fun w hw => great_calls _ _ w)) ?_
  refine q1 (pk_and rfl rfl rfl) ?_
  refine q1 (mvb rfl) ?_
  refine q1g rfl (gwt rfl) (fun h => ldw 1 Try.isAgg24 Try.sizeOf24 rfl rfl rfl) ?_
  refine q1g rfl (gwt rfl) (fun h => ldw 4 Try.isAgg24 Try.sizeOf24 rfl rfl rfl) ?_
  refine q1g rfl (gwt rfl) (fun h => cl hb23 rfl (mc (gvt h) (mc (gvt h) mn)) (fun w hw => great_calls _ _ w)) ?_
  refine q1 (pk_and rfl rfl rfl) ?_
  refine q1 (mvb rfl) ?_
  refine q1g rfl (gwt rfl) (fun h => mvb rfl) ?_
  refine q1g rfl (gwt rfl) (fun h => ldw 2 Try.isAgg24 Try.sizeOf24 rfl rfl rfl) ?_
  refine q1g rfl (gwt rfl) (fun h => ldw 3 Try.isAgg24 Try.sizeOf24 rfl rfl rfl) ?_
  refine q1g rfl (gwt rfl) (fun h => cl hb23 rfl (mc (gvt h) (mc (gvt h) mn)) (fun w hw => great_calls _ _ w)) ?_
  refine q1g rfl (gwt rfl) (fun h => eqlb Try.underlying4 (gvt h) (gvt h)) ?_
  refine q1 (pk_and rfl rfl rfl) ?_
  refine q1 (mvb rfl) ?_
  refine q1g rfl (gwt rfl) (fun h => ldw 1 Try.isAgg24 Try.sizeOf24 rfl rfl rfl) ?_
  refine q1g rfl (gwt rfl) (fun h => ldw 0 Try.isAgg24 Try.sizeOf24 rfl rfl rfl) ?_
  refine q1g rfl (gwt rfl) (fun h => cl hb21 rfl (mc (gvt h) (mc (gvt h) mn)) (fun w hw => join_calls _ _ w)) ?_
  refine q1g rfl (gwt rfl) (fun h => ldw 3 Try.isAgg24 Try.sizeOf24 rfl rfl rfl) ?_
  refine q1g rfl (gwt rfl) (fun h => eqla (gvt h) (gvt h) (fun w => eql24 _ _ w)) ?_
  refine q1 (pk_and rfl rfl rfl) ?_
  refine q1 (mvb rfl) ?_
  refine q1g rfl (gwt rfl) (fun h => ldw 3 Try.isAgg24 Try.sizeOf24 rfl rfl rfl) ?_
  refine q1g rfl (gwt rfl) (fun h => ldw 0 Try.isAgg24 Try.sizeOf24 rfl rfl rfl) ?_
  refine q1g rfl (gwt rfl) (fun h => cl hb25 rfl (mc (gvt h) (mc (gvt h) mn)) (fun w hw => missing_calls _ _ w)) ?_
  refine q1g rfl (gwt rfl) (fun h => eql (gvt h) rfl) ?_
  refine q1 (pk_and rfl rfl rfl) ?_
  refine q1 (asgb rfl) ?_
  refine qnil ?_
  refine nthen ?_
  refine cret ?_
  exact fin1b rfl rfl (by simp [join_l, join_r, meet_l, meet_r, join_both, join_comm, miss_join])

set_option maxHeartbeats 4000000 in
theorem reckons_law (a b : Vec) (ha : ∀ i, i < 6 → 0 ≤ a i) (w : World) : Calls Try.prog 4 #[.agg (encV a).toArray, .agg (encV b).toArray] w (Ret (.bool true) w) := by
  refine fn_calls (n := 107) Try.func4 rfl rfl (lb rfl) ?_
  refine cseq ?_
  refine creg ?_
  refine lbxa rfl (fun b1 => ?_)
  refine lbxa rfl (fun b2 => ?_)
  refine l1 (asgb rfl) ?_
  refine lnil ?_
  refine nthen ?_
  refine cseq ?_
  refine cregE2 (Eff.mk 6 5 24 [.int .u64 0, .int .u64 0, .int .u64 0, .int .u64 0, .int .u64 0, .int .u64 0] 8 (.tmp 13) (encV (eachV max a b))) (Eff.mk 7 6 24 [.int .u64 0, .int .u64 0, .int .u64 0, .int .u64 0, .int .u64 0, .int .u64 0] 9 (.tmp 16) (encV (eachV min a b))) mo (by kernel_rfl) (by kernel_rfl) ⟨⟨_, _, _, rfl⟩, ⟨_, _, _, rfl, af_any (by kernel_rfl)⟩, ⟨_, Try.zeroValue24, rfl⟩, Try.sizeOf24, rfl, oneA rfl⟩ ⟨⟨_, _, _, rfl⟩, ⟨_, _, _, rfl, af_any (by kernel_rfl)⟩, ⟨_, Try.zeroValue24, rfl⟩, Try.sizeOf24, rfl, oneA rfl⟩ (by kernel_rfl) (by kernel_rfl) (by kernel_rfl) (by kernel_rfl) rfl rfl ?_
  refine t1 rfl (fun T => ldw 0 Try.isAgg24 Try.sizeOf24 rfl rfl rfl) ?_
  refine t1 rfl (fun T => ldw 1 Try.isAgg24 Try.sizeOf24 rfl rfl rfl) ?_
  refine t1 rfl (fun T => cl hb21 rfl (mc rfl (mc rfl mn)) (fun w hw => join_calls _ _ w)) ?_
  refine t1 rfl (fun T => ldw 0 Try.isAgg24 Try.sizeOf24 rfl rfl rfl) ?_
  refine t1 rfl (fun T => ldw 1 Try.isAgg24 Try.sizeOf24 rfl rfl rfl) ?_
  refine t1 rfl (fun T => cl hb22 rfl (mc rfl (mc rfl mn)) (fun w hw => meet_calls _ _ w)) ?_
  refine te 0 rfl rfl ?_
  refine te 1 rfl rfl ?_
  refine ts 0 rfl rfl rfl ?_
  refine ts 1 rfl rfl rfl ?_
  refine tnil ?_
  intro b3 b4
  refine nthen ?_
  refine cseq ?_
  refine creg ?_
  refine l1 (asgi rfl) ?_
  refine l1 (asgi rfl) ?_
  refine lnil ?_
  refine nthen ?_
  refine cseq ?_
  refine creg ?_
  refine l1 (asgb rfl) ?_
  refine lnil ?_
  refine nthen ?_
  refine cseq ?_
  refine cseq ?_
  refine creg ?_
  refine l1 (asgi rfl) ?_
  refine lnil ?_
  refine nthen ?_
  refine cblock ?_
  refine cloopI (σ := Nat) (fun s => [(7, .int .u64 (sumV s (fun i => min (a i) 1048576))), (8, .int .u64 (missR a b s)), (9, .bool (smallR a b s)), (10, .int .i64 (s : Int)), (2, .pointer (some ⟨b1, 0, none⟩)), (3, .pointer (some ⟨b2, 0, none⟩)), (5, .pointer (some ⟨b3, 0, none⟩)), (6, .pointer (some ⟨b4, 0, none⟩))]) (fun s => [⟨b1, encV a, 24⟩, ⟨b2, encV b, 24⟩, ⟨b3, encV (eachV max a b), 24⟩, ⟨b4, encV (eachV min a b), 24⟩]) (fun s => s ≤ 6) (fun s => 6 - s) 0 (Nat.zero_le _) ⟨rfl, rfl, rfl, rfl, rfl, rfl, rfl, rfl, trivial⟩ (List.Sublist.refl _) ?_
  rintro i j hi
  show WC _ _ _ ([⟨b1, encV a, 24⟩, ⟨b2, encV b, 24⟩, ⟨b3, encV (eachV max a b), 24⟩, ⟨b4, encV (eachV min a b), 24⟩]) _ _ (over j [(7, .int .u64 (sumV i (fun i => min (a i) 1048576))), (8, .int .u64 (missR a b i)), (9, .bool (smallR a b i)), (10, .int .i64 (i : Int)), (2, .pointer (some ⟨b1, 0, none⟩)), (3, .pointer (some ⟨b2, 0, none⟩)), (5, .pointer (some ⟨b3, 0, none⟩)), (6, .pointer (some ⟨b4, 0, none⟩))])
  replace hi : i ≤ 6 := hi
  refine cseq ?_
  refine cseq ?_
  refine creg ?_
  refine l1 (mvi rfl) ?_
  refine l1 (lss rfl rfl) ?_
  refine lnil ?_
  refine nthen ?_
  refine cif rfl (fun h1 => ?_) (fun h1 => ?_)
  · have hlt : i < 6 := by (have := dt h1; omega)
    refine cskip ?_
    refine nthen ?_
    refine cseq ?_
    refine cblock ?_
    refine cseq ?_
    refine cseq ?_
    refine cregq mo (by kernel_rfl) ?_
    refine q1 (mvi rfl) ?_
    refine q1 (ia ar24 rfl rfl (by omega) (by omega)) ?_
    refine q1 (ldc 2 Try.isAgg22 rfl rfl (encV_at _ _ hlt)) ?_
    refine q1 (mvi rfl) ?_
    refine q1 (ia ar24 rfl rfl (by omega) (by omega)) ?_
    refine q1 (ldc 0 Try.isAgg22 rfl rfl (encV_at _ _ hlt)) ?_
    refine q1 (mvi rfl) ?_
    refine q1 (ia ar24 rfl rfl (by omega) (by omega)) ?_
    refine q1 (ldc 1 Try.isAgg22 rfl rfl (encV_at _ _ hlt)) ?_
    refine q1 (max2 rfl rfl) ?_
    refine q1 (neq rfl rfl) ?_
    refine q1 (mvb rfl) ?_
    refine q1g rfl (gwf rfl) (fun h => mvi rfl) ?_
    refine q1g rfl (gwf rfl) (fun h => ia ar24 rfl (gvt h) (by omega) (by omega)) ?_
    refine q1g rfl (gwf rfl) (fun h => ldc 3 Try.isAgg22 rfl (gvt h) (encV_at _ _ hlt)) ?_
    refine q1g rfl (gwf rfl) (fun h => mvi rfl) ?_
    refine q1g rfl (gwf rfl) (fun h => ia ar24 rfl (gvt h) (by omega) (by omega)) ?_
    refine q1g rfl (gwf rfl) (fun h => ldc 0 Try.isAgg22 rfl (gvt h) (encV_at _ _ hlt)) ?_
    refine q1g rfl (gwf rfl) (fun h => mvi rfl) ?_
    refine q1g rfl (gwf rfl) (fun h => ia ar24 rfl (gvt h) (by omega) (by omega)) ?_
    refine q1g rfl (gwf rfl) (fun h => ldc 1 Try.isAgg22 rfl (gvt h) (encV_at _ _ hlt)) ?_
    refine q1g rfl (gwf rfl) (fun h => min2 (gvt h) (gvt h)) ?_
    refine q1g rfl (gwf rfl) (fun h => neq (gvt h) (gvt h)) ?_
    refine q1 (pk_or rfl rfl rfl) ?_
    refine qnil ?_
    refine nthen ?_
    refine ciff (bf rfl (by simp [eachV])) ?_
    refine cskip ?_
    refine nthen ?_
    refine cseq ?_
    refine creg ?_
    refine l1 (mvi rfl) ?_
    refine l1 (mvi rfl) ?_
    refine l1 (ia ar24 rfl rfl (by omega) (by omega)) ?_
    refine l1 (ldc 0 Try.isAgg22 rfl rfl (encV_at _ _ hlt)) ?_
    refine l1 (min2 rfl rfl) ?_
    first | refine l1 (addn rfl rfl (ru (by omega) (by omega))) ?_ | refine l1 (add rfl rfl) ?_
    refine l1 (asgi rfl) ?_
    refine lnil ?_
    refine nthen ?_
    refine cseq ?_
    refine creg ?_
    refine l1 (mvb rfl) ?_
    refine l1 (mvb rfl) ?_
    refine l1g rfl (gwt rfl) (fun h => mvi rfl) ?_
    refine l1g rfl (gwt rfl) (fun h => ia ar24 rfl (gvt h) (by omega) (by omega)) ?_
    refine l1g rfl (gwt rfl) (fun h => ldc 0 Try.isAgg22 rfl (gvt h) (encV_at _ _ hlt)) ?_
    refine l1g rfl (gwt rfl) (fun h => leq (gvt h) rfl) ?_
    refine l1 (pk_and rfl rfl rfl) ?_
    refine l1 (mvb rfl) ?_
    refine l1g rfl (gwt rfl) (fun h => mvi rfl) ?_
    refine l1g rfl (gwt rfl) (fun h => ia ar24 rfl (gvt h) (by omega) (by omega)) ?_
    refine l1g rfl (gwt rfl) (fun h => ldc 1 Try.isAgg22 rfl (gvt h) (encV_at _ _ hlt)) ?_
    refine l1g rfl (gwt rfl) (fun h => leq (gvt h) rfl) ?_
    refine l1 (pk_and rfl rfl rfl) ?_
    refine l1 (asgb rfl) ?_
    refine lnil ?_
    refine nthen ?_
    refine cseq ?_
    refine cregq mo (by kernel_rfl) ?_
    refine q1 (mvi rfl) ?_
    refine q1 (ia ar24 rfl rfl (by omega) (by omega)) ?_
    refine q1 (ldc 1 Try.isAgg22 rfl rfl (encV_at _ _ hlt)) ?_
    refine q1 (mvi rfl) ?_
    refine q1 (ia ar24 rfl rfl (by omega) (by omega)) ?_
    refine q1 (ldc 0 Try.isAgg22 rfl rfl (encV_at _ _ hlt)) ?_
    refine q1 (gtr rfl rfl) ?_
    refine qnil ?_
    refine nthen ?_
    refine cif rfl (fun h2 => ?_) (fun h2 => ?_)
    · skip
      refine cregq mo (by kernel_rfl) ?_
      refine q1 (mvi rfl) ?_
      refine q1 (mvi rfl) ?_
      refine q1 (ia ar24 rfl rfl (by omega) (by omega)) ?_
      refine q1 (ldc 1 Try.isAgg22 rfl rfl (encV_at _ _ hlt)) ?_
      refine q1 (mvi rfl) ?_
      refine q1 (ia ar24 rfl rfl (by omega) (by omega)) ?_
      refine q1 (ldc 0 Try.isAgg22 rfl rfl (encV_at _ _ hlt)) ?_
      first | refine q1 (subn rfl rfl (ru (by omega) (by omega))) ?_ | refine q1 (sub rfl rfl) ?_
      first | refine q1 (addn rfl rfl (ru (by omega) (by omega))) ?_ | refine q1 (add rfl rfl) ?_
      refine q1 (asgi rfl) ?_
      refine qnil ?_
      refine nblkN ?_
      refine nthen ?_
      refine creg ?_
      refine l1 (mvi rfl) ?_
      first | refine l1 (addn rfl rfl (ri (by omega) (by omega))) ?_ | refine l1 (add rfl rfl) ?_
      refine l1 (asgi rfl) ?_
      refine lnil ?_
      first | exact nI (i + 1) (by show i + 1 ≤ 6; omega) (by show 6 - (i + 1) < 6 - i; omega) ⟨rfl, (by rw [missR_t h2]; rfl), rfl, rfl, rfl, rfl, rfl, rfl, trivial⟩ (List.Sublist.refl _) | exact nI (i + 1) (by show i + 1 ≤ 6; omega) (by show 6 - (i + 1) < 6 - i; omega) ⟨rfl, (by rw [missR_f h2]; rfl), rfl, rfl, rfl, rfl, rfl, rfl, trivial⟩ (List.Sublist.refl _)
    · skip
      refine cskip ?_
      refine nblkN ?_
      refine nthen ?_
      refine creg ?_
      refine l1 (mvi rfl) ?_
      first | refine l1 (addn rfl rfl (ri (by omega) (by omega))) ?_ | refine l1 (add rfl rfl) ?_
      refine l1 (asgi rfl) ?_
      refine lnil ?_
      first | exact nI (i + 1) (by show i + 1 ≤ 6; omega) (by show 6 - (i + 1) < 6 - i; omega) ⟨rfl, (by rw [missR_t h2]; rfl), rfl, rfl, rfl, rfl, rfl, rfl, trivial⟩ (List.Sublist.refl _) | exact nI (i + 1) (by show i + 1 ≤ 6; omega) (by show 6 - (i + 1) < 6 - i; omega) ⟨rfl, (by rw [missR_f h2]; rfl), rfl, rfl, rfl, rfl, rfl, rfl, trivial⟩ (List.Sublist.refl _)
  · have h6 : i = 6 := by (have := df h1; omega)
    subst h6
    refine cexit ?_
    refine nthenE ?_
    refine nIE ?_
    refine nblkE ?_
    refine nthen ?_
    refine cseq ?_
    refine cregq mo (by kernel_rfl) ?_
    refine q1 (cl hb24 rfl mn (fun w hw => awake14_calls w)) ?_
    refine q1 (mvb rfl) ?_
    refine q1g rfl (gwt rfl) (fun h => ldw 0 Try.isAgg24 Try.sizeOf24 rfl rfl rfl) ?_
    refine q1g rfl (gwt rfl) (fun h => ldw 1 Try.isAgg24 Try.sizeOf24 rfl rfl rfl) ?_
    refine q1g rfl (gwt rfl) (fun h => cl hb23 rfl (mc (gvt h) (mc (gvt h) mn)) (fun w hw => great_calls _ _ w)) ?_
    refine q1g rfl (gwt rfl) (fun h => ldw 0 Try.isAgg24 Try.sizeOf24 rfl rfl rfl) ?_
    refine q1g rfl (gwt rfl) (fun h => ldw 1 Try.isAgg24 Try.sizeOf24 rfl rfl rfl) ?_
    refine q1g rfl (gwt rfl) (fun h => cl hb26 rfl (mc (gvt h) (mc (gvt h) mn)) (fun w hw => rgreat_calls _ _ w)) ?_
    refine q1g rfl (gwt rfl) (fun h => eqlb Try.underlying4 (gvt h) (gvt h)) ?_
    refine q1 (pk_and rfl rfl rfl) ?_
    refine q1 (mvb rfl) ?_
    refine q1g rfl (gwt rfl) (fun h => ldw 0 Try.isAgg24 Try.sizeOf24 rfl rfl rfl) ?_
    refine q1g rfl (gwt rfl) (fun h => cl hb27 rfl (mc (gvt h) mn) (fun w hw => total_calls _ w)) ?_
    refine q1g rfl (gwt rfl) (fun h => mvi rfl) ?_
    refine q1g rfl (gwt rfl) (fun h => eql (gvt h) (gvt h)) ?_
    refine q1 (pk_and rfl rfl rfl) ?_
    refine q1 (mvb rfl) ?_
    refine q1g rfl (gwt rfl) (fun h => mvb rfl) ?_
    refine q1g rfl (gwt rfl) (fun h => nt (gvt h)) ?_
    refine q1g rfl (gwt rfl) (fun h => mvb (gvt h)) ?_
    refine q1g rfl (ggf rfl) (fun h => ldw 0 Try.isAgg24 Try.sizeOf24 rfl rfl rfl) ?_
    refine q1g rfl (ggf rfl) (fun h => ldw 1 Try.isAgg24 Try.sizeOf24 rfl rfl rfl) ?_
    refine q1g rfl (ggf rfl) (fun h => cl hb25 rfl (mc (gvt h) (mc (gvt h) mn)) (fun w hw => missing_calls _ _ w)) ?_
    refine q1g rfl (ggf rfl) (fun h => mvi rfl) ?_
    refine q1g rfl (ggf rfl) (fun h => eql (gvt h) (gvt h)) ?_
    refine q1g rfl (gwt rfl) (fun h => pk_or (gvt h) rfl (gva h)) ?_
    refine q1 (pk_and rfl rfl rfl) ?_
    refine q1 (asgb rfl) ?_
    refine qnil ?_
    refine nthen ?_
    refine cret ?_
    exact fin1b rfl rfl (by rw [rgreat_eq]; simp only [reck_last a b ha]; simp [totV])
end Go.Proofs.Ytkdbjhlkahkobaa
/- headers as plain data -/
namespace Jal
open Go
structure Hd where
  writer : Int
  seq : Int
  prev : Nat → Int
  epoch : Int
  control : Bool
  time : Int
  item : Nat → Int
  tp : Option Addr
  tn : Nat
  tc : Nat
  tok : Nat → Nat → Int
  knows : Nat → Int
  sum : Nat → Int
  size : Int
  code : Nat → Int
def encH (h : Hd) : List Value := .int .i64 h.writer :: .int .u64 h.seq :: (arr .u8 32 h.prev ++ (.int .i64 h.epoch :: .bool h.control :: .int .u64 h.time :: (arr .u8 16 h.item ++
  (.slice h.tp h.tn h.tc :: (arr .u64 6 h.knows ++ (arr .u8 32 h.sum ++ (.int .i64 h.size :: arr .u8 32 h.code)))))))
theorem encH_writer (h : Hd) : (encH h)[0]? = some (.int .i64 h.writer) := rfl
theorem encH_seq (h : Hd) : (encH h)[1]? = some (.int .u64 h.seq) := rfl
theorem encH_prev (h : Hd) : ((encH h).drop 2).take 32 = arr .u8 32 h.prev := rfl
theorem encH_epoch (h : Hd) : (encH h)[34]? = some (.int .i64 h.epoch) := rfl
theorem encH_control (h : Hd) : (encH h)[35]? = some (.bool h.control) := rfl
theorem encH_time (h : Hd) : (encH h)[36]? = some (.int .u64 h.time) := rfl
theorem encH_item (h : Hd) : ((encH h).drop 37).take 16 = arr .u8 16 h.item := rfl
theorem encH_tokens (h : Hd) : (encH h)[53]? = some (.slice h.tp h.tn h.tc) := rfl
theorem encH_knows (h : Hd) : ((encH h).drop 54).take 6 = arr .u64 6 h.knows := rfl
theorem encH_sum (h : Hd) : ((encH h).drop 60).take 32 = arr .u8 32 h.sum := rfl
theorem encH_size (h : Hd) : (encH h)[92]? = some (.int .i64 h.size) := rfl
theorem encH_code (h : Hd) : ((encH h).drop 93).take 32 = arr .u8 32 h.code := rfl
theorem encH_len (h : Hd) : (encH h).length = 125 := rfl
theorem encH_know (h : Hd) (i : Nat) (hi : i < 6) : (encH h)[0 + 54 + i * 1]? = some (.int .u64 (h.knows i)) := by
  rcases six hi with rfl | rfl | rfl | rfl | rfl | rfl <;> rfl
/-- the tokens lie where the header says -/
def HdIn (w : World) (h : Hd) : Prop := Sl w h.tp h.tn 16 (fun i => arr .u8 16 (h.tok i))
structure HdOk (h : Hd) : Prop where
  w : I64 h.writer
  s : U64 h.seq
  e : I64 h.epoch
  t : U64 h.time
  n : (h.tn : Int) ≤ 9223372036854775807
  k : ∀ i, i < 6 → U64 (h.knows i)
  z : I64 h.size
  tok : ∀ i, i < h.tn → ∀ j, j < 16 → 0 ≤ h.tok i j ∧ h.tok i j ≤ 255
  item : ∀ j, j < 16 → 0 ≤ h.item j ∧ h.item j ≤ 255
  prev : ∀ j, j < 32 → 0 ≤ h.prev j ∧ h.prev j ≤ 255
  sum : ∀ j, j < 32 → 0 ≤ h.sum j ∧ h.sum j ≤ 255
  code : ∀ j, j < 32 → 0 ≤ h.code j ∧ h.code j ≤ 255
def cmpI (a b : Int) : Int := bif decide (a < b) then -1 else bif decide (a > b) then 1 else 0
def or2 (a b : Int) : Int := bif decide (a ≠ 0) then a else bif decide (b ≠ 0) then b else 0
def or3 (a b c : Int) : Int := bif decide (a ≠ 0) then a else bif decide (b ≠ 0) then b else bif decide (c ≠ 0) then c else 0
end Jal
/- walks, printed by a program of ours -/
namespace Go.Proofs.Ytkdbjhlkahkobaa
open Jal Go.RowKit
set_option maxRecDepth 100000
theorem nanu_calls (n : Int) (w : World) : Calls Try.prog 128 #[.int .u64 n] w (Ret (.bool false) w) := by
  refine fn_calls (n := 6) Try.func128 rfl rfl (lb rfl) ?_
  refine cseq ?_
  refine creg ?_
  refine l1 (asgb rfl) ?_
  refine lnil ?_
  refine nthen ?_
  refine cseq ?_
  refine creg ?_
  refine l1 (mvi rfl) ?_
  refine l1 (mvi rfl) ?_
  refine l1 (neq rfl rfl) ?_
  refine l1 (asgb rfl) ?_
  refine lnil ?_
  refine nthen ?_
  refine cret ?_
  exact fin1b rfl rfl (by simp)

theorem nani_calls (n : Int) (w : World) : Calls Try.prog 129 #[.int .i64 n] w (Ret (.bool false) w) := by
  refine fn_calls (n := 6) Try.func129 rfl rfl (lb rfl) ?_
  refine cseq ?_
  refine creg ?_
  refine l1 (asgb rfl) ?_
  refine lnil ?_
  refine nthen ?_
  refine cseq ?_
  refine creg ?_
  refine l1 (mvi rfl) ?_
  refine l1 (mvi rfl) ?_
  refine l1 (neq rfl rfl) ?_
  refine l1 (asgb rfl) ?_
  refine lnil ?_
  refine nthen ?_
  refine cret ?_
  exact fin1b rfl rfl (by simp)

theorem cmpu_calls (a b : Int) (w : World) : Calls Try.prog 105 #[.int .u64 a, .int .u64 b] w (Ret (.int .i64 (cmpI a b)) w) := by
  refine fn_calls (n := 20) Try.func105 rfl rfl (lb rfl) ?_
  refine cseq ?_
  refine creg ?_
  refine l1 (asgi rfl) ?_
  refine lnil ?_
  refine nthen ?_
  refine cseq ?_
  refine creg ?_
  refine l1 (mvi rfl) ?_
  refine l1 (cl hb128 rfl (mc rfl mn) (fun w hw => nanu_calls _ w)) ?_
  refine l1 (asgb rfl) ?_
  refine lnil ?_
  refine nthen ?_
  refine cseq ?_
  refine creg ?_
  refine l1 (mvi rfl) ?_
  refine l1 (cl hb128 rfl (mc rfl mn) (fun w hw => nanu_calls _ w)) ?_
  refine l1 (asgb rfl) ?_
  refine lnil ?_
  refine nthen ?_
  refine cseq ?_
  refine cseq ?_
  refine creg ?_
  refine l1 (mvb rfl) ?_
  refine lnil ?_
  refine nthen ?_
  refine ciff rfl ?_
  refine cskip ?_
  refine nthen ?_
  refine cseq ?_
  refine cseq ?_
  refine creg ?_
  refine l1 (mvb rfl) ?_
  refine lnil ?_
  refine nthen ?_
  refine ciff rfl ?_
  refine cskip ?_
  refine nthen ?_
  refine cseq ?_
  refine cseq ?_
  refine creg ?_
  refine l1 (mvi rfl) ?_
  refine l1 (mvi rfl) ?_
  refine l1 (lss rfl rfl) ?_
  refine lnil ?_
  refine nthen ?_
  refine cif rfl (fun h1 => ?_) (fun h1 => ?_)
  · skip
    refine cseq ?_
    refine creg ?_
    refine l1 (asgi rfl) ?_
    refine lnil ?_
    refine nthen ?_
    refine cret ?_
    refine nthenR ?_
    exact fin1i rfl rfl (by first | rfl | (simp only [cmpI, h1, cond_true, cond_false]; done))
  · skip
    refine cskip ?_
    refine nthen ?_
    refine cseq ?_
    refine cseq ?_
    refine creg ?_
    refine l1 (mvi rfl) ?_
    refine l1 (mvi rfl) ?_
    refine l1 (gtr rfl rfl) ?_
    refine lnil ?_
    refine nthen ?_
    refine cif rfl (fun h2 => ?_) (fun h2 => ?_)
    · skip
      refine cseq ?_
      refine creg ?_
      refine l1 (asgi rfl) ?_
      refine lnil ?_
      refine nthen ?_
      refine cret ?_
      refine nthenR ?_
      exact fin1i rfl rfl (by first | rfl | (simp only [cmpI, h1, h2, cond_true, cond_false]; done))
    · skip
      refine cskip ?_
      refine nthen ?_
      refine cseq ?_
      refine creg ?_
      refine l1 (asgi rfl) ?_
      refine lnil ?_
      refine nthen ?_
      refine cret ?_
      exact fin1i rfl rfl (by first | rfl | (simp only [cmpI, h1, h2, cond_true, cond_false]; done))

theorem cmpi_calls (a b : Int) (w : World) : Calls Try.prog 106 #[.int .i64 a, .int .i64 b] w (Ret (.int .i64 (cmpI a b)) w) := by
  refine fn_calls (n := 20) Try.func106 rfl rfl (lb rfl) ?_
  refine cseq ?_
  refine creg ?_
  refine l1 (asgi rfl) ?_
  refine lnil ?_
  refine nthen ?_
  refine cseq ?_
  refine creg ?_
  refine l1 (mvi rfl) ?_
  refine l1 (cl hb129 rfl (mc rfl mn) (fun w hw => nani_calls _ w)) ?_
  refine l1 (asgb rfl) ?_
  refine lnil ?_
  refine nthen ?_
  refine cseq ?_
  refine creg ?_
  refine l1 (mvi rfl) ?_
  refine l1 (cl hb129 rfl (mc rfl mn) (fun w hw => nani_calls _ w)) ?_
  refine l1 (asgb rfl) ?_
  refine lnil ?_
  refine nthen ?_
  refine cseq ?_
  refine cseq ?_
  refine creg ?_
  refine l1 (mvb rfl) ?_
  refine lnil ?_
  refine nthen ?_
  refine ciff rfl ?_
  refine cskip ?_
  refine nthen ?_
  refine cseq ?_
  refine cseq ?_
  refine creg ?_
  refine l1 (mvb rfl) ?_
  refine lnil ?_
  refine nthen ?_
  refine ciff rfl ?_
  refine cskip ?_
  refine nthen ?_
  refine cseq ?_
  refine cseq ?_
  refine creg ?_
  refine l1 (mvi rfl) ?_
  refine l1 (mvi rfl) ?_
  refine l1 (lss rfl rfl) ?_
  refine lnil ?_
  refine nthen ?_
  refine cif rfl (fun h1 => ?_) (fun h1 => ?_)
  · skip
    refine cseq ?_
    refine creg ?_
    refine l1 (asgi rfl) ?_
    refine lnil ?_
    refine nthen ?_
    refine cret ?_
    refine nthenR ?_
    exact fin1i rfl rfl (by first | rfl | (simp only [cmpI, h1, cond_true, cond_false]; done))
  · skip
    refine cskip ?_
    refine nthen ?_
    refine cseq ?_
    refine cseq ?_
    refine creg ?_
    refine l1 (mvi rfl) ?_
    refine l1 (mvi rfl) ?_
    refine l1 (gtr rfl rfl) ?_
    refine lnil ?_
    refine nthen ?_
    refine cif rfl (fun h2 => ?_) (fun h2 => ?_)
    · skip
      refine cseq ?_
      refine creg ?_
      refine l1 (asgi rfl) ?_
      refine lnil ?_
      refine nthen ?_
      refine cret ?_
      refine nthenR ?_
      exact fin1i rfl rfl (by first | rfl | (simp only [cmpI, h1, h2, cond_true, cond_false]; done))
    · skip
      refine cskip ?_
      refine nthen ?_
      refine cseq ?_
      refine creg ?_
      refine l1 (asgi rfl) ?_
      refine lnil ?_
      refine nthen ?_
      refine cret ?_
      exact fin1i rfl rfl (by first | rfl | (simp only [cmpI, h1, h2, cond_true, cond_false]; done))

theorem or2_calls (p : Option Addr) (c : Nat) (f : Nat → Int) (w : World) (hl : Sl w p 2 1 (fun i => [.int .i64 (f i)])) : Calls Try.prog 104 #[.slice p 2 c] w (Ret (.int .i64 (or2 (f 0) (f 1))) w) := by
  refine fn_calls (n := 18) Try.func104 rfl rfl (lb rfl) ?_
  obtain ⟨b, o, rfl, hbl, hm⟩ := hl.at (i := 0) (by decide)
  refine cseq ?_
  refine creg ?_
  refine l1 (asgi rfl) ?_
  refine lnil ?_
  refine nthen ?_
  refine cseq ?_
  refine creg ?_
  refine l1 (asgi rfl) ?_
  refine lnil ?_
  refine nthen ?_
  refine cseq ?_
  refine cseq ?_
  refine creg ?_
  refine l1 (mvs rfl) ?_
  refine l1 (lens sl151 rfl rfl) ?_
  refine l1 (mvi rfl) ?_
  refine lnil ?_
  refine nthen ?_
  refine cblock ?_
  refine cloopN 3 ?_
  refine rsucc ?_
  refine cseq ?_
  refine creg ?_
  refine l1 (lss rfl rfl) ?_
  refine lnil ?_
  refine nthen ?_
  refine cseq ?_
  refine cift rfl ?_
  refine cskip ?_
  refine nthen ?_
  refine cseq ?_
  refine cblock ?_
  refine cseq ?_
  refine creg ?_
  refine l1 (is sl151 rfl rfl (by decide) (by decide)) ?_
  refine l1 (ldm Try.isAgg3 rfl (fun w' hw => ((hm _ (by decide)).kept hw.below hbl).c0)) ?_
  refine l1 (asgi rfl) ?_
  refine lnil ?_
  refine nthen ?_
  refine cseq ?_
  refine creg ?_
  refine l1 (mvi rfl) ?_
  refine l1 (mvi rfl) ?_
  refine l1 (neq rfl rfl) ?_
  refine lnil ?_
  refine nthen ?_
  refine cif rfl (fun h1 => ?_) (fun h1 => ?_)
  · replace h1 : decide (f 0 ≠ 0) = _ := h1
    refine cseq ?_
    refine creg ?_
    refine l1 (mvi rfl) ?_
    refine l1 (asgi rfl) ?_
    refine lnil ?_
    refine nthen ?_
    refine cret ?_
    refine nblkR ?_
    refine nthenR ?_
    refine nroundR ?_
    refine nblkR ?_
    refine nthenR ?_
    exact fin1i rfl rfl (by simp only [or2, h1, cond_true, cond_false] <;> rfl)
  · replace h1 : decide (f 0 ≠ 0) = _ := h1
    refine cskip ?_
    refine nblkN ?_
    refine nthen ?_
    refine creg ?_
    first | refine l1 (addn rfl rfl (ri (by omega) (by omega))) ?_ | refine l1 (add rfl rfl) ?_
    refine l1 (mvi rfl) ?_
    refine lnil ?_
    refine nround (rsucc ?_)
    refine cseq ?_
    refine creg ?_
    refine l1 (lss rfl rfl) ?_
    refine lnil ?_
    refine nthen ?_
    refine cseq ?_
    refine cift rfl ?_
    refine cskip ?_
    refine nthen ?_
    refine cseq ?_
    refine cblock ?_
    refine cseq ?_
    refine creg ?_
    refine l1 (is sl151 rfl rfl (by decide) (by decide)) ?_
    refine l1 (ldm Try.isAgg3 rfl (fun w' hw => ((hm _ (by decide)).kept hw.below hbl).c0)) ?_
    refine l1 (asgi rfl) ?_
    refine lnil ?_
    refine nthen ?_
    refine cseq ?_
    refine creg ?_
    refine l1 (mvi rfl) ?_
    refine l1 (mvi rfl) ?_
    refine l1 (neq rfl rfl) ?_
    refine lnil ?_
    refine nthen ?_
    refine cif rfl (fun h2 => ?_) (fun h2 => ?_)
    · replace h2 : decide (f 1 ≠ 0) = _ := h2
      refine cseq ?_
      refine creg ?_
      refine l1 (mvi rfl) ?_
      refine l1 (asgi rfl) ?_
      refine lnil ?_
      refine nthen ?_
      refine cret ?_
      refine nblkR ?_
      refine nthenR ?_
      refine nroundR ?_
      refine nblkR ?_
      refine nthenR ?_
      exact fin1i rfl rfl (by simp only [or2, h1, h2, cond_true, cond_false] <;> rfl)
    · replace h2 : decide (f 1 ≠ 0) = _ := h2
      refine cskip ?_
      refine nblkN ?_
      refine nthen ?_
      refine creg ?_
      first | refine l1 (addn rfl rfl (ri (by omega) (by omega))) ?_ | refine l1 (add rfl rfl) ?_
      refine l1 (mvi rfl) ?_
      refine lnil ?_
      refine nround (rsucc ?_)
      refine cseq ?_
      refine creg ?_
      refine l1 (lss rfl rfl) ?_
      refine lnil ?_
      refine nthen ?_
      refine cseq ?_
      refine ciff rfl ?_
      refine cexit ?_
      refine nthenE ?_
      refine nroundE ?_
      refine nblkE ?_
      refine nthen ?_
      refine cseq ?_
      refine creg ?_
      refine l1 (mvi rfl) ?_
      refine l1 (asgi rfl) ?_
      refine lnil ?_
      refine nthen ?_
      refine cret ?_
      exact fin1i rfl rfl (by simp only [or2, h1, h2, cond_true, cond_false] <;> rfl)

theorem or3_calls (p : Option Addr) (c : Nat) (f : Nat → Int) (w : World) (hl : Sl w p 3 1 (fun i => [.int .i64 (f i)])) : Calls Try.prog 104 #[.slice p 3 c] w (Ret (.int .i64 (or3 (f 0) (f 1) (f 2))) w) := by
  refine fn_calls (n := 18) Try.func104 rfl rfl (lb rfl) ?_
  obtain ⟨b, o, rfl, hbl, hm⟩ := hl.at (i := 0) (by decide)
  refine cseq ?_
  refine creg ?_
  refine l1 (asgi rfl) ?_
  refine lnil ?_
  refine nthen ?_
  refine cseq ?_
  refine creg ?_
  refine l1 (asgi rfl) ?_
  refine lnil ?_
  refine nthen ?_
  refine cseq ?_
  refine cseq ?_
  refine creg ?_
  refine l1 (mvs rfl) ?_
  refine l1 (lens sl151 rfl rfl) ?_
  refine l1 (mvi rfl) ?_
  refine lnil ?_
  refine nthen ?_
  refine cblock ?_
  refine cloopN 4 ?_
  refine rsucc ?_
  refine cseq ?_
  refine creg ?_
  refine l1 (lss rfl rfl) ?_
  refine lnil ?_
  refine nthen ?_
  refine cseq ?_
  refine cift rfl ?_
  refine cskip ?_
  refine nthen ?_
  refine cseq ?_
  refine cblock ?_
  refine cseq ?_
  refine creg ?_
  refine l1 (is sl151 rfl rfl (by decide) (by decide)) ?_
  refine l1 (ldm Try.isAgg3 rfl (fun w' hw => ((hm _ (by decide)).kept hw.below hbl).c0)) ?_
  refine l1 (asgi rfl) ?_
  refine lnil ?_
  refine nthen ?_
  refine cseq ?_
  refine creg ?_
  refine l1 (mvi rfl) ?_
  refine l1 (mvi rfl) ?_
  refine l1 (neq rfl rfl) ?_
  refine lnil ?_
  refine nthen ?_
  refine cif rfl (fun h1 => ?_) (fun h1 => ?_)
  · replace h1 : decide (f 0 ≠ 0) = _ := h1
    refine cseq ?_
    refine creg ?_
    refine l1 (mvi rfl) ?_
    refine l1 (asgi rfl) ?_
    refine lnil ?_
    refine nthen ?_
    refine cret ?_
    refine nblkR ?_
    refine nthenR ?_
    refine nroundR ?_
    refine nblkR ?_
    refine nthenR ?_
    exact fin1i rfl rfl (by simp only [or3, h1, cond_true, cond_false] <;> rfl)
  · replace h1 : decide (f 0 ≠ 0) = _ := h1
    refine cskip ?_
    refine nblkN ?_
    refine nthen ?_
    refine creg ?_
    first | refine l1 (addn rfl rfl (ri (by omega) (by omega))) ?_ | refine l1 (add rfl rfl) ?_
    refine l1 (mvi rfl) ?_
    refine lnil ?_
    refine nround (rsucc ?_)
    refine cseq ?_
    refine creg ?_
    refine l1 (lss rfl rfl) ?_
    refine lnil ?_
    refine nthen ?_
    refine cseq ?_
    refine cift rfl ?_
    refine cskip ?_
    refine nthen ?_
    refine cseq ?_
    refine cblock ?_
    refine cseq ?_
    refine creg ?_
    refine l1 (is sl151 rfl rfl (by decide) (by decide)) ?_
    refine l1 (ldm Try.isAgg3 rfl (fun w' hw => ((hm _ (by decide)).kept hw.below hbl).c0)) ?_
    refine l1 (asgi rfl) ?_
    refine lnil ?_
    refine nthen ?_
    refine cseq ?_
    refine creg ?_
    refine l1 (mvi rfl) ?_
    refine l1 (mvi rfl) ?_
    refine l1 (neq rfl rfl) ?_
    refine lnil ?_
    refine nthen ?_
    refine cif rfl (fun h2 => ?_) (fun h2 => ?_)
    · replace h2 : decide (f 1 ≠ 0) = _ := h2
      refine cseq ?_
      refine creg ?_
      refine l1 (mvi rfl) ?_
      refine l1 (asgi rfl) ?_
      refine lnil ?_
      refine nthen ?_
      refine cret ?_
      refine nblkR ?_
      refine nthenR ?_
      refine nroundR ?_
      refine nblkR ?_
      refine nthenR ?_
      exact fin1i rfl rfl (by simp only [or3, h1, h2, cond_true, cond_false] <;> rfl)
    · replace h2 : decide (f 1 ≠ 0) = _ := h2
      refine cskip ?_
      refine nblkN ?_
      refine nthen ?_
      refine creg ?_
      first | refine l1 (addn rfl rfl (ri (by omega) (by omega))) ?_ | refine l1 (add rfl rfl) ?_
      refine l1 (mvi rfl) ?_
      refine lnil ?_
      refine nround (rsucc ?_)
      refine cseq ?_
      refine creg ?_
      refine l1 (lss rfl rfl) ?_
      refine lnil ?_
      refine nthen ?_
      refine cseq ?_
      refine cift rfl ?_
      refine cskip ?_
      refine nthen ?_
      refine cseq ?_
      refine cblock ?_
      refine cseq ?_
      refine creg ?_
      refine l1 (is sl151 rfl rfl (by decide) (by decide)) ?_
      refine l1 (ldm Try.isAgg3 rfl (fun w' hw => ((hm _ (by decide)).kept hw.below hbl).c0)) ?_
      refine l1 (asgi rfl) ?_
      refine lnil ?_
      refine nthen ?_
      refine cseq ?_
      refine creg ?_
      refine l1 (mvi rfl) ?_
      refine l1 (mvi rfl) ?_
      refine l1 (neq rfl rfl) ?_
      refine lnil ?_
      refine nthen ?_
      refine cif rfl (fun h3 => ?_) (fun h3 => ?_)
      · replace h3 : decide (f 2 ≠ 0) = _ := h3
        refine cseq ?_
        refine creg ?_
        refine l1 (mvi rfl) ?_
        refine l1 (asgi rfl) ?_
        refine lnil ?_
        refine nthen ?_
        refine cret ?_
        refine nblkR ?_
        refine nthenR ?_
        refine nroundR ?_
        refine nblkR ?_
        refine nthenR ?_
        exact fin1i rfl rfl (by simp only [or3, h1, h2, h3, cond_true, cond_false] <;> rfl)
      · replace h3 : decide (f 2 ≠ 0) = _ := h3
        refine cskip ?_
        refine nblkN ?_
        refine nthen ?_
        refine creg ?_
        first | refine l1 (addn rfl rfl (ri (by omega) (by omega))) ?_ | refine l1 (add rfl rfl) ?_
        refine l1 (mvi rfl) ?_
        refine lnil ?_
        refine nround (rsucc ?_)
        refine cseq ?_
        refine creg ?_
        refine l1 (lss rfl rfl) ?_
        refine lnil ?_
        refine nthen ?_
        refine cseq ?_
        refine ciff rfl ?_
        refine cexit ?_
        refine nthenE ?_
        refine nroundE ?_
        refine nblkE ?_
        refine nthen ?_
        refine cseq ?_
        refine creg ?_
        refine l1 (mvi rfl) ?_
        refine l1 (asgi rfl) ?_
        refine lnil ?_
        refine nthen ?_
        refine cret ?_
        exact fin1i rfl rfl (by simp only [or3, h1, h2, h3, cond_true, cond_false] <;> rfl)

def f3 (x y z : Int) : Nat → Int
  | 0 => x
  | 1 => y
  | _ => z
theorem or2_at {w0 w : World} {H : List Ent} {i : Nat} {b : Nat} {x y : Int} (hw : Sat w0 H w) (hi : H[i]? = some ⟨b, [.int .i64 x, .int .i64 y], 3⟩) : Calls Try.prog 104 #[.slice (some ⟨b, 0, none⟩) 2 2] w (Ret (.int .i64 (or2 x y)) w) :=
  or2_calls _ _ (f3 x y 0) w (SlIn.sl (.inr ⟨_, List.mem_of_getElem? hi, rfl, fun i hi j v hv => by
    match i, j with
    | 0, 0 => exact hv
    | 1, 0 => exact hv
    | i + 2, _ => omega
    | _, j + 1 => cases hv⟩) hw)
theorem or3_at {w0 w : World} {H : List Ent} {i : Nat} {b : Nat} {x y z : Int} (hw : Sat w0 H w) (hi : H[i]? = some ⟨b, [.int .i64 x, .int .i64 y, .int .i64 z], 3⟩) : Calls Try.prog 104 #[.slice (some ⟨b, 0, none⟩) 3 3] w (Ret (.int .i64 (or3 x y z)) w) :=
  or3_calls _ _ (f3 x y z) w (SlIn.sl (.inr ⟨_, List.mem_of_getElem? hi, rfl, fun i hi j v hv => by
    match i, j with
    | 0, 0 => exact hv
    | 1, 0 => exact hv
    | 2, 0 => exact hv
    | i + 3, _ => omega
    | _, j + 1 => cases hv⟩) hw)
theorem bs151_2 (x y : Int) : ∀ w : World, (Instr.buildSlice 151 2 #[(0, .int .i64 x), (1, .int .i64 y)]).run Try.prog w = .ok (.slice (some ⟨w.heap.size, 0, none⟩) 2 2) (w.alloc (.cells [.int .i64 x, .int .i64 y].toArray 3)) := fun w => by kernel_rfl
theorem bs151_3 (x y z : Int) : ∀ w : World, (Instr.buildSlice 151 3 #[(0, .int .i64 x), (1, .int .i64 y), (2, .int .i64 z)]).run Try.prog w = .ok (.slice (some ⟨w.heap.size, 0, none⟩) 3 3) (w.alloc (.cells [.int .i64 x, .int .i64 y, .int .i64 z].toArray 3)) := fun w => by kernel_rfl
def cmpH (a b : Hd) : Int := or3 (cmpI a.time b.time) (cmpI a.writer b.writer) (cmpI a.seq b.seq)
def laterH (a b : Hd) : Bool := decide (cmpH a b > 0)
def firstH (a b : Hd) : Int := or2 (cmpI a.time b.time) (cmpI a.writer b.writer)

theorem compare_calls (a b : Hd) (w : World) : Calls Try.prog 69 #[.agg (encH a).toArray, .agg (encH b).toArray] w (Ret (.int .i64 (cmpH a b)) w) := by
  refine fn_calls (n := 22) Try.func69 rfl rfl (lb rfl) ?_
  refine cseq ?_
  refine creg ?_
  refine lbxa rfl (fun b1 => ?_)
  refine lbxa rfl (fun b2 => ?_)
  refine l1 (asgi rfl) ?_
  refine lnil ?_
  refine nthen ?_
  refine cseq ?_
  refine cregT 15 mo (by kernel_rfl) ?_
  refine q1 (fa fa37_5 rfl) ?_
  refine q1 (ldc 0 Try.isAgg22 rfl rfl rfl) ?_
  refine q1 (fa fa37_5 rfl) ?_
  refine q1 (ldc 1 Try.isAgg22 rfl rfl rfl) ?_
  refine q1 (cl hb105 rfl (mc rfl (mc rfl mn)) (fun w hw => cmpu_calls _ _ w)) ?_
  refine q1 (fa fa37_0 rfl) ?_
  refine q1 (ldc 0 Try.isAgg3 rfl rfl rfl) ?_
  refine q1 (fa fa37_0 rfl) ?_
  refine q1 (ldc 1 Try.isAgg3 rfl rfl rfl) ?_
  refine q1 (cl hb106 rfl (mc rfl (mc rfl mn)) (fun w hw => cmpi_calls _ _ w)) ?_
  refine q1 (fa fa37_1 rfl) ?_
  refine q1 (ldc 0 Try.isAgg22 rfl rfl rfl) ?_
  refine q1 (fa fa37_1 rfl) ?_
  refine q1 (ldc 1 Try.isAgg22 rfl rfl rfl) ?_
  refine q1 (cl hb105 rfl (mc rfl (mc rfl mn)) (fun w hw => cmpu_calls _ _ w)) ?_
  refine qtail ?_
  refine lbs Try.underlying151 rfl (bs151_3 _ _ _) (fun b3 => ?_)
  refine l1 (cl hb104 rfl (mc rfl mn) (fun w hw => or3_at hw (i := 2) rfl)) ?_
  refine l1 (asgi rfl) ?_
  refine lnil ?_
  refine nthen ?_
  refine cret ?_
  exact fin1 rfl rfl

theorem first_calls (a b : Hd) (w : World) : Calls Try.prog 81 #[.agg (encH a).toArray, .agg (encH b).toArray] w (Ret (.int .i64 (firstH a b)) w) := by
  refine fn_calls (n := 17) Try.func81 rfl rfl (lb rfl) ?_
  refine cseq ?_
  refine creg ?_
  refine lbxa rfl (fun b1 => ?_)
  refine lbxa rfl (fun b2 => ?_)
  refine l1 (asgi rfl) ?_
  refine lnil ?_
  refine nthen ?_
  refine cseq ?_
  refine cregT 10 mo (by kernel_rfl) ?_
  refine q1 (fa fa37_5 rfl) ?_
  refine q1 (ldc 0 Try.isAgg22 rfl rfl rfl) ?_
  refine q1 (fa fa37_5 rfl) ?_
  refine q1 (ldc 1 Try.isAgg22 rfl rfl rfl) ?_
  refine q1 (cl hb105 rfl (mc rfl (mc rfl mn)) (fun w hw => cmpu_calls _ _ w)) ?_
  refine q1 (fa fa37_0 rfl) ?_
  refine q1 (ldc 0 Try.isAgg3 rfl rfl rfl) ?_
  refine q1 (fa fa37_0 rfl) ?_
  refine q1 (ldc 1 Try.isAgg3 rfl rfl rfl) ?_
  refine q1 (cl hb106 rfl (mc rfl (mc rfl mn)) (fun w hw => cmpi_calls _ _ w)) ?_
  refine qtail ?_
  refine lbs Try.underlying151 rfl (bs151_2 _ _) (fun b3 => ?_)
  refine l1 (cl hb104 rfl (mc rfl mn) (fun w hw => or2_at hw (i := 2) rfl)) ?_
  refine l1 (asgi rfl) ?_
  refine lnil ?_
  refine nthen ?_
  refine cret ?_
  exact fin1 rfl rfl

theorem later_calls (a b : Hd) (w : World) : Calls Try.prog 28 #[.agg (encH a).toArray, .agg (encH b).toArray] w (Ret (.bool (laterH a b)) w) := by
  refine fn_calls (n := 9) Try.func28 rfl rfl (lb rfl) ?_
  refine cseq ?_
  refine creg ?_
  refine lbxa rfl (fun b1 => ?_)
  refine lbxa rfl (fun b2 => ?_)
  refine l1 (asgb rfl) ?_
  refine lnil ?_
  refine nthen ?_
  refine cseq ?_
  refine creg ?_
  refine l1 (ldw 0 Try.isAgg37 Try.sizeOf37 rfl rfl rfl) ?_
  refine l1 (ldw 1 Try.isAgg37 Try.sizeOf37 rfl rfl rfl) ?_
  refine l1 (cl hb69 rfl (mc rfl (mc rfl mn)) (fun w hw => compare_calls _ _ w)) ?_
  refine l1 (gtr rfl rfl) ?_
  refine l1 (asgb rfl) ?_
  refine lnil ?_
  refine nthen ?_
  refine cret ?_
  exact fin1 rfl rfl

def rlaterH (a b : Hd) : Bool := bif decide (a.time ≠ b.time) then decide (a.time > b.time) else bif decide (a.writer ≠ b.writer) then decide (a.writer > b.writer) else decide (a.seq > b.seq)

theorem rlater_calls (a b : Hd) (w : World) : Calls Try.prog 30 #[.agg (encH a).toArray, .agg (encH b).toArray] w (Ret (.bool (rlaterH a b)) w) := by
  refine fn_calls (n := 30) Try.func30 rfl rfl (lb rfl) ?_
  refine cseq ?_
  refine creg ?_
  refine lbxa rfl (fun b1 => ?_)
  refine lbxa rfl (fun b2 => ?_)
  refine l1 (asgb rfl) ?_
  refine lnil ?_
  refine nthen ?_
  refine cseq ?_
  refine cseq ?_
  refine creg ?_
  refine l1 (fa fa37_5 rfl) ?_
  refine l1 (ldc 0 Try.isAgg22 rfl rfl rfl) ?_
  refine l1 (fa fa37_5 rfl) ?_
  refine l1 (ldc 1 Try.isAgg22 rfl rfl rfl) ?_
  refine l1 (neq rfl rfl) ?_
  refine lnil ?_
  refine nthen ?_
  refine cif rfl (fun h1 => ?_) (fun h1 => ?_)
  · skip
    refine cseq ?_
    refine creg ?_
    refine l1 (fa fa37_5 rfl) ?_
    refine l1 (ldc 0 Try.isAgg22 rfl rfl rfl) ?_
    refine l1 (fa fa37_5 rfl) ?_
    refine l1 (ldc 1 Try.isAgg22 rfl rfl rfl) ?_
    refine l1 (gtr rfl rfl) ?_
    refine l1 (asgb rfl) ?_
    refine lnil ?_
    refine nthen ?_
    refine cret ?_
    refine nthenR ?_
    exact fin1b rfl rfl (by first | rfl | (simp only [rlaterH, h1, cond_true, cond_false]; done))
  · skip
    refine cskip ?_
    refine nthen ?_
    refine cseq ?_
    refine cseq ?_
    refine creg ?_
    refine l1 (fa fa37_0 rfl) ?_
    refine l1 (ldc 0 Try.isAgg3 rfl rfl rfl) ?_
    refine l1 (fa fa37_0 rfl) ?_
    refine l1 (ldc 1 Try.isAgg3 rfl rfl rfl) ?_
    refine l1 (neq rfl rfl) ?_
    refine lnil ?_
    refine nthen ?_
    refine cif rfl (fun h2 => ?_) (fun h2 => ?_)
    · skip
      refine cseq ?_
      refine creg ?_
      refine l1 (fa fa37_0 rfl) ?_
      refine l1 (ldc 0 Try.isAgg3 rfl rfl rfl) ?_
      refine l1 (fa fa37_0 rfl) ?_
      refine l1 (ldc 1 Try.isAgg3 rfl rfl rfl) ?_
      refine l1 (gtr rfl rfl) ?_
      refine l1 (asgb rfl) ?_
      refine lnil ?_
      refine nthen ?_
      refine cret ?_
      refine nthenR ?_
      exact fin1b rfl rfl (by first | rfl | (simp only [rlaterH, h1, h2, cond_true, cond_false]; done))
    · skip
      refine cskip ?_
      refine nthen ?_
      refine cseq ?_
      refine creg ?_
      refine l1 (fa fa37_1 rfl) ?_
      refine l1 (ldc 0 Try.isAgg22 rfl rfl rfl) ?_
      refine l1 (fa fa37_1 rfl) ?_
      refine l1 (ldc 1 Try.isAgg22 rfl rfl rfl) ?_
      refine l1 (gtr rfl rfl) ?_
      refine l1 (asgb rfl) ?_
      refine lnil ?_
      refine nthen ?_
      refine cret ?_
      exact fin1b rfl rfl (by first | rfl | (simp only [rlaterH, h1, h2, cond_true, cond_false]; done))

def hdT (t : Int) : Hd := ⟨0, 0, fun _ => 0, 0, false, t, fun _ => 0, none, 0, 0, fun _ _ => 0, fun _ => 0, fun _ => 0, 0, fun _ => 0⟩
theorem bk37 (t : Int) : ∀ w, (Instr.build 37 #[(5, .int .u64 t)]).run Try.prog w = .ok (.agg (encH (hdT t)).toArray) w := fun w => by kernel_rfl

theorem awake18_calls  (w : World) : Calls Try.prog 29 #[] w (Ret (.bool true) w) := by
  refine fn_calls (n := 4) Try.func29 rfl rfl (lb rfl) ?_
  refine cseq ?_
  refine creg ?_
  refine l1 (asgb rfl) ?_
  refine lnil ?_
  refine nthen ?_
  refine cseq ?_
  refine creg ?_
  refine l1 (bldk rfl (bk37 _)) ?_
  refine l1 (bldk rfl (bk37 _)) ?_
  refine l1 (cl hb28 rfl (mc rfl (mc rfl mn)) (fun w hw => later_calls _ _ w)) ?_
  refine l1 (asgb rfl) ?_
  refine lnil ?_
  refine nthen ?_
  refine cret ?_
  exact fin1 rfl rfl

theorem or3_pos {a b c : Int} : or3 a b c > 0 ↔ a > 0 ∨ a = 0 ∧ (b > 0 ∨ b = 0 ∧ c > 0) := by
  unfold or3
  simp only [cond_eq_ite, decide_eq_true_eq]
  by_cases ha : a = 0 <;> by_cases hb : b = 0 <;> by_cases hc : c = 0 <;> simp [ha, hb, hc] <;> omega
theorem cmpI_pos {a b : Int} : cmpI a b > 0 ↔ a > b := by
  unfold cmpI
  simp only [cond_eq_ite, decide_eq_true_eq]
  by_cases h1 : a < b <;> by_cases h2 : a > b <;> simp [h1, h2] <;> omega
theorem cmpI_zero {a b : Int} : cmpI a b = 0 ↔ a = b := by
  unfold cmpI
  simp only [cond_eq_ite, decide_eq_true_eq]
  by_cases h1 : a < b <;> by_cases h2 : a > b <;> simp [h1, h2] <;> omega
theorem later_iff {a b : Hd} : laterH a b = true ↔ a.time > b.time ∨ a.time = b.time ∧ (a.writer > b.writer ∨ a.writer = b.writer ∧ a.seq > b.seq) := by
  unfold laterH cmpH
  rw [decide_eq_true_eq, or3_pos, cmpI_pos, cmpI_zero, cmpI_pos, cmpI_zero, cmpI_pos]
theorem rlater_eq (a b : Hd) : rlaterH a b = laterH a b := by
  apply Bool.eq_iff_iff.2
  rw [later_iff]
  unfold rlaterH
  simp only [cond_eq_ite, decide_eq_true_eq]
  by_cases h1 : a.time = b.time <;> by_cases h2 : a.writer = b.writer <;> simp [h1, h2] <;> omega
theorem later_law (a b c : Hd) : (((!(laterH a b) || !(laterH b c)) || laterH a c) && !(laterH a b && laterH b a)) = true := by
  have h1 := @later_iff a b
  have h2 := @later_iff b c
  have h3 := @later_iff a c
  have h4 := @later_iff b a
  cases e1 : laterH a b <;> cases e2 : laterH b c <;> cases e3 : laterH a c <;> cases e4 : laterH b a <;> simp only [e1, e2, e3, e4] at * <;> first | rfl | (exfalso; simp at h1 h2 h3 h4; omega)

set_option maxHeartbeats 4000000 in
theorem later3_law (a b c : Hd) (w : World) : Calls Try.prog 5 #[.agg (encH a).toArray, .agg (encH b).toArray, .agg (encH c).toArray] w (Ret (.bool true) w) := by
  refine fn_calls (n := 54) Try.func5 rfl rfl (lb rfl) ?_
  refine cseq ?_
  refine creg ?_
  refine lbxa rfl (fun b1 => ?_)
  refine lbxa rfl (fun b2 => ?_)
  refine lbxa rfl (fun b3 => ?_)
  refine l1 (asgb rfl) ?_
  refine lnil ?_
  refine nthen ?_
  refine cseq ?_
  refine cregq mo (by kernel_rfl) ?_
  refine q1 (ldw 0 Try.isAgg37 Try.sizeOf37 rfl rfl rfl) ?_
  refine q1 (ldw 1 Try.isAgg37 Try.sizeOf37 rfl rfl rfl) ?_
  refine q1 (cl hb28 rfl (mc rfl (mc rfl mn)) (fun w hw => later_calls _ _ w)) ?_
  refine q1 (ldw 1 Try.isAgg37 Try.sizeOf37 rfl rfl rfl) ?_
  refine q1 (ldw 2 Try.isAgg37 Try.sizeOf37 rfl rfl rfl) ?_
  refine q1 (cl hb28 rfl (mc rfl (mc rfl mn)) (fun w hw => later_calls _ _ w)) ?_
  refine q1 (ldw 0 Try.isAgg37 Try.sizeOf37 rfl rfl rfl) ?_
  refine q1 (ldw 2 Try.isAgg37 Try.sizeOf37 rfl rfl rfl) ?_
  refine q1 (cl hb28 rfl (mc rfl (mc rfl mn)) (fun w hw => later_calls _ _ w)) ?_
  refine q1 (asgb rfl) ?_
  refine q1 (asgb rfl) ?_
  refine q1 (asgb rfl) ?_
  refine qnil ?_
  refine nthen ?_
  refine cseq ?_
  refine creg ?_
  refine l1 (cl hb29 rfl mn (fun w hw => awake18_calls w)) ?_
  refine l1 (mvb rfl) ?_
  refine l1g rfl (gwt rfl) (fun h => mvb rfl) ?_
  refine l1g rfl (gwt rfl) (fun h => ldw 0 Try.isAgg37 Try.sizeOf37 rfl rfl rfl) ?_
  refine l1g rfl (gwt rfl) (fun h => ldw 1 Try.isAgg37 Try.sizeOf37 rfl rfl rfl) ?_
  refine l1g rfl (gwt rfl) (fun h => cl hb30 rfl (mc (gvt h) (mc (gvt h) mn)) (fun w hw => rlater_calls _ _ w)) ?_
  refine l1g rfl (gwt rfl) (fun h => eqlb Try.underlying4 (gvt h) (gvt h)) ?_
  refine l1 (pk_and rfl rfl rfl) ?_
  refine l1 (mvb rfl) ?_
  refine l1g rfl (gwt rfl) (fun h => mvb rfl) ?_
  refine l1g rfl (gwt rfl) (fun h => ldw 1 Try.isAgg37 Try.sizeOf37 rfl rfl rfl) ?_
  refine l1g rfl (gwt rfl) (fun h => ldw 2 Try.isAgg37 Try.sizeOf37 rfl rfl rfl) ?_
  refine l1g rfl (gwt rfl) (fun h => cl hb30 rfl (mc (gvt h) (mc (gvt h) mn)) (fun w hw => rlater_calls _ _ w)) ?_
  refine l1g rfl (gwt rfl) (fun h => eqlb Try.underlying4 (gvt h) (gvt h)) ?_
  refine l1 (pk_and rfl rfl rfl) ?_
  refine l1 (mvb rfl) ?_
  refine l1g rfl (gwt rfl) (fun h => mvb rfl) ?_
  refine l1g rfl (gwt rfl) (fun h => nt (gvt h)) ?_
  refine l1g rfl (gwt rfl) (fun h => mvb (gvt h)) ?_
  refine l1g rfl (ggf rfl) (fun h => mvb rfl) ?_
  refine l1g rfl (ggf rfl) (fun h => nt (gvt h)) ?_
  refine l1g rfl (gwt rfl) (fun h => pk_or (gvt h) rfl (gva h)) ?_
  refine l1g rfl (gwt rfl) (fun h => mvb (gvt h)) ?_
  refine l1g rfl (ggf rfl) (fun h => mvb rfl) ?_
  refine l1g rfl (gwt rfl) (fun h => pk_or (gvt h) rfl (gva h)) ?_
  refine l1 (pk_and rfl rfl rfl) ?_
  refine l1 (mvb rfl) ?_
  refine l1g rfl (gwt rfl) (fun h => mvb rfl) ?_
  refine l1g rfl (gwt rfl) (fun h => mvb (gvt h)) ?_
  refine l1g rfl (ggt rfl) (fun h => ldw 1 Try.isAgg37 Try.sizeOf37 rfl rfl rfl) ?_
  refine l1g rfl (ggt rfl) (fun h => ldw 0 Try.isAgg37 Try.sizeOf37 rfl rfl rfl) ?_
  refine l1g rfl (ggt rfl) (fun h => cl hb28 rfl (mc (gvt h) (mc (gvt h) mn)) (fun w hw => later_calls _ _ w)) ?_
  refine l1g rfl (gwt rfl) (fun h => pk_and (gvt h) (gva h) rfl) ?_
  refine l1g rfl (gwt rfl) (fun h => nt (gvt h)) ?_
  refine l1 (pk_and rfl rfl rfl) ?_
  refine l1 (asgb rfl) ?_
  refine lnil ?_
  refine nthen ?_
  refine cret ?_
  exact fin1b rfl rfl (by have h := later_law a b c; simp only [rlater_eq] at *; revert h; cases laterH a b <;> cases laterH b c <;> cases laterH a c <;> cases laterH b a <;> simp)
end Go.Proofs.Ytkdbjhlkahkobaa
/- walks, printed by a program of ours -/
namespace Go.Proofs.Ytkdbjhlkahkobaa
open Jal Go.RowKit
set_option maxRecDepth 100000
theorem bcmp_calls (p q : Option Addr) (n m c d : Nat) (xs ys : List Int) (w : World) (hx : BySl w p n xs) (hy : BySl w q m ys) (hxr : ∀ x ∈ xs, 0 ≤ x ∧ x ≤ 255) (hyr : ∀ x ∈ ys, 0 ≤ x ∧ x ≤ 255) : Calls Try.prog 94 #[.slice p n c, .slice q m d] w (Ret (.int .i64 (lexI xs ys)) w) := by
  refine fn_calls (n := 8) Try.func94 rfl rfl (lb rfl) ?_
  refine cseq ?_
  refine creg ?_
  refine l1 (asgi rfl) ?_
  refine lnil ?_
  refine nthen ?_
  refine cseq ?_
  refine creg ?_
  refine l1 (mvs rfl) ?_
  refine l1 (mvs rfl) ?_
  refine l1 (clx ex124 rfl (mc rfl (mc rfl mn)) (fun w' hw => run_compare (hx.keptS hw) (hy.keptS hw) hxr hyr)) ?_
  refine l1 (asgi rfl) ?_
  refine lnil ?_
  refine nthen ?_
  refine cret ?_
  exact fin1 rfl rfl

theorem tcmp_calls (f g : Nat → Int) (hf : ∀ j, j < 16 → 0 ≤ f j ∧ f j ≤ 255) (hg : ∀ j, j < 16 → 0 ≤ g j ∧ g j ≤ 255)  (w : World) : Calls Try.prog 130 #[.agg (arr .u8 16 f).toArray, .agg (arr .u8 16 g).toArray] w (Ret (.int .i64 (lexI (tl 16 f) (tl 16 g))) w) := by
  refine fn_calls (n := 8) Try.func130 rfl rfl (lb rfl) ?_
  refine cseq ?_
  refine creg ?_
  refine lbxa rfl (fun b1 => ?_)
  refine lbxa rfl (fun b2 => ?_)
  refine l1 (asgi rfl) ?_
  refine lnil ?_
  refine nthen ?_
  refine cseq ?_
  refine cregq mo (by kernel_rfl) ?_
  refine q1 (slall Try.underlying34 Try.sizeOf5 rfl) ?_
  refine q1 (slall Try.underlying34 Try.sizeOf5 rfl) ?_
  refine q1 (cl hb94 rfl (mc rfl (mc rfl mn)) (fun w hw => bcmp_calls _ _ _ _ _ _ _ _ w (bySl_own hw (i := 0) rfl) (bySl_own hw (i := 1) rfl) (tl_mem hf) (tl_mem hg))) ?_
  refine q1 (asgi rfl) ?_
  refine qnil ?_
  refine nthen ?_
  refine cret ?_
  exact fin1 rfl rfl

theorem arr_at {k : IntKind} {n : Nat} (f : Nat → Int) {i : Nat} (h : i < n) : (arr k n f)[0 + ((i : Int)).toNat * 1]? = some (.int k (f i)) := by
  have := arr_get (k := k) (f := f) h; simpa using this

theorem less_calls (f g : Nat → Int) (w : World) : Calls Try.prog 98 #[.agg (arr .u8 16 f).toArray, .agg (arr .u8 16 g).toArray] w (Ret (.bool (lessT f g)) w) := by
  refine fn_calls (n := 24) Try.func98 rfl rfl (lb rfl) ?_
  refine cseq ?_
  refine creg ?_
  refine lbxa rfl (fun b1 => ?_)
  refine lbxa rfl (fun b2 => ?_)
  refine l1 (asgb rfl) ?_
  refine lnil ?_
  refine nthen ?_
  refine cseq ?_
  refine cseq ?_
  refine creg ?_
  refine l1 (asgi rfl) ?_
  refine lnil ?_
  refine nthen ?_
  refine cblock ?_
  refine cloopI (σ := Nat) (fun s => [(2, .pointer (some ⟨b1, 0, none⟩)), (3, .pointer (some ⟨b2, 0, none⟩)), (5, .int .i64 (s : Int))]) (fun s => [⟨b1, arr .u8 16 f, 34⟩, ⟨b2, arr .u8 16 g, 34⟩]) (fun s => s ≤ 16 ∧ ∀ j, j < s → f j = g j) (fun s => 16 - s) 0 ⟨Nat.zero_le _, fun j hj => by omega⟩ ⟨rfl, rfl, rfl, trivial⟩ (List.Sublist.refl _) ?_
  rintro i j hI
  show WC _ _ _ ([⟨b1, arr .u8 16 f, 34⟩, ⟨b2, arr .u8 16 g, 34⟩]) _ _ (over j [(2, .pointer (some ⟨b1, 0, none⟩)), (3, .pointer (some ⟨b2, 0, none⟩)), (5, .int .i64 (i : Int))])
  replace hI : i ≤ 16 ∧ ∀ j, j < i → f j = g j := hI
  refine cseq ?_
  refine cseq ?_
  refine creg ?_
  refine l1 (mvi rfl) ?_
  refine l1 (lss rfl rfl) ?_
  refine lnil ?_
  refine nthen ?_
  refine cif rfl (fun h1 => ?_) (fun h1 => ?_)
  · have hlt : i < 16 := by (have := dt h1; omega)
    refine cskip ?_
    refine nthen ?_
    refine cseq ?_
    refine cblock ?_
    refine cseq ?_
    refine cregq mo (by kernel_rfl) ?_
    refine q1 (mvi rfl) ?_
    refine q1 (ia ar34 rfl rfl (by omega) (by omega)) ?_
    refine q1 (ldc 0 Try.isAgg5 rfl rfl (arr_at _ hlt)) ?_
    refine q1 (mvi rfl) ?_
    refine q1 (ia ar34 rfl rfl (by omega) (by omega)) ?_
    refine q1 (ldc 1 Try.isAgg5 rfl rfl (arr_at _ hlt)) ?_
    refine q1 (neq rfl rfl) ?_
    refine qnil ?_
    refine nthen ?_
    refine cif rfl (fun h2 => ?_) (fun h2 => ?_)
    · have hne : f i ≠ g i := dt h2
      refine cseq ?_
      refine cregq mo (by kernel_rfl) ?_
      refine q1 (mvi rfl) ?_
      refine q1 (ia ar34 rfl rfl (by omega) (by omega)) ?_
      refine q1 (ldc 0 Try.isAgg5 rfl rfl (arr_at _ hlt)) ?_
      refine q1 (mvi rfl) ?_
      refine q1 (ia ar34 rfl rfl (by omega) (by omega)) ?_
      refine q1 (ldc 1 Try.isAgg5 rfl rfl (arr_at _ hlt)) ?_
      refine q1 (lss rfl rfl) ?_
      refine q1 (asgb rfl) ?_
      refine qnil ?_
      refine nthen ?_
      refine cret ?_
      refine nblkR ?_
      refine nthenR ?_
      refine nIR ?_
      refine nblkR ?_
      refine nthenR ?_
      exact fin1b rfl rfl (less_first hlt hI.2 hne)
    · have heq : f i = g i := df2 h2
      refine cskip ?_
      refine nblkN ?_
      refine nthen ?_
      refine creg ?_
      refine l1 (mvi rfl) ?_
      first | refine l1 (addn rfl rfl (ri (by omega) (by omega))) ?_ | refine l1 (add rfl rfl) ?_
      refine l1 (asgi rfl) ?_
      refine lnil ?_
      exact nI (i + 1) ⟨by omega, fun j hj => (Nat.lt_succ_iff_lt_or_eq.1 hj).elim (fun h => hI.2 j h) (fun h => by subst h; exact heq)⟩ (by show 16 - (i + 1) < 16 - i; omega) ⟨rfl, rfl, rfl, trivial⟩ (List.Sublist.refl _)
  · have hal : ∀ j, j < 16 → f j = g j := fun j hj => hI.2 j (by have := df h1; omega)
    refine cexit ?_
    refine nthenE ?_
    refine nIE ?_
    refine nblkE ?_
    refine nthen ?_
    refine cseq ?_
    refine creg ?_
    refine l1 (asgb rfl) ?_
    refine lnil ?_
    refine nthen ?_
    refine cret ?_
    exact fin1b rfl rfl (Eq.symm (less_none hal))

theorem sorted_calls (w : World) (p : Option Addr) (n c : Nat) (t : Nat → Nat → Int) (hn : (n : Int) ≤ 9223372036854775807) (hl : Sl w p n 16 (fun i => arr .u8 16 (t i))) (hr : ∀ i, i < n → ∀ j, j < 16 → 0 ≤ t i j ∧ t i j ≤ 255) : Calls Try.prog 108 #[.slice p n c] w (Ret (.bool (sortedT n t)) w) := by
  refine fn_calls (n := 21) Try.func108 rfl rfl (lb rfl) ?_
  refine cseq ?_
  refine creg ?_
  refine l1 (asgb rfl) ?_
  refine lnil ?_
  refine nthen ?_
  refine cseq ?_
  refine cseq ?_
  refine creg ?_
  refine l1 (asgi rfl) ?_
  refine lnil ?_
  refine nthen ?_
  refine cblock ?_
  refine cloopI (σ := Nat) (fun s => [(0, .slice p n c), (3, .int .i64 ((s : Int) + 1))]) (fun s => []) (fun s => (s = 0 ∨ s + 1 ≤ n) ∧ ∀ j, j + 1 < s + 1 → lessT (t j) (t (j + 1)) = true) (fun s => n - s) 0 ⟨.inl rfl, fun j hj => by omega⟩ ⟨rfl, rfl, trivial⟩ (List.Sublist.refl _) ?_
  rintro i j hI
  show WC _ _ _ ([]) _ _ (over j [(0, .slice p n c), (3, .int .i64 ((i : Int) + 1))])
  replace hI : (i = 0 ∨ i + 1 ≤ n) ∧ ∀ j, j + 1 < i + 1 → lessT (t j) (t (j + 1)) = true := hI
  refine cseq ?_
  refine cseq ?_
  refine creg ?_
  refine l1 (mvi rfl) ?_
  refine l1 (mvs rfl) ?_
  refine l1 (lens sl35 rfl rfl) ?_
  refine l1 (lss rfl rfl) ?_
  refine lnil ?_
  refine nthen ?_
  refine cif rfl (fun h1 => ?_) (fun h1 => ?_)
  · have hlt : i + 1 < n := by (have := dt h1; omega)
    obtain ⟨b, o, hp, hbl, hm⟩ := hl.at hlt
    refine cskip ?_
    refine nthen ?_
    refine cseq ?_
    refine cblock ?_
    refine cseq ?_
    refine cregq mo (by kernel_rfl) ?_
    refine q1 (mvs rfl) ?_
    refine q1 (mvi rfl) ?_
    refine q1 (subn rfl rfl (ri (by omega) (by omega))) ?_
    refine q1 (isp sl35 hp rfl rfl (by omega) (by omega)) ?_
    refine q1 (ldam (vs := arr .u8 16 (t (i))) Try.isAgg34 Try.sizeOf34 rfl rfl (fun w' hw => by rw [show ((i : Int) + 1 - 1).toNat = i from by omega]; exact (hm (i) (by omega)).kept hw.below hbl)) ?_
    refine q1 (mvs rfl) ?_
    refine q1 (mvi rfl) ?_
    refine q1 (isp sl35 hp rfl rfl (by omega) (by omega)) ?_
    refine q1 (ldam (vs := arr .u8 16 (t (i + 1))) Try.isAgg34 Try.sizeOf34 rfl rfl (fun w' hw => by rw [show ((i : Int) + 1).toNat = i + 1 from by omega]; exact (hm (i + 1) (by omega)).kept hw.below hbl)) ?_
    refine q1 (cl hb130 rfl (mc rfl (mc rfl mn)) (fun w hw => tcmp_calls _ _ (hr i (by omega)) (hr (i + 1) (by omega)) w)) ?_
    refine q1 (geq rfl rfl) ?_
    refine qnil ?_
    refine nthen ?_
    refine cif rfl (fun h2 => ?_) (fun h2 => ?_)
    · have hno : lessT (t i) (t (i + 1)) = false := by (have := dt h2; unfold lessT; exact decide_eq_false (by omega))
      refine cseq ?_
      refine creg ?_
      refine l1 (asgb rfl) ?_
      refine lnil ?_
      refine nthen ?_
      refine cret ?_
      refine nblkR ?_
      refine nthenR ?_
      refine nIR ?_
      refine nblkR ?_
      refine nthenR ?_
      exact fin1b rfl rfl (Eq.symm (sortedT_no hlt hno))
    · have hle : lessT (t i) (t (i + 1)) = true := by (have := df h2; unfold lessT; exact decide_eq_true (by omega))
      refine cskip ?_
      refine nblkN ?_
      refine nthen ?_
      refine creg ?_
      refine l1 (mvi rfl) ?_
      first | refine l1 (addn rfl rfl (ri (by omega) (by omega))) ?_ | refine l1 (add rfl rfl) ?_
      refine l1 (asgi rfl) ?_
      refine lnil ?_
      exact nI (i + 1) ⟨by omega, fun j hj => (Nat.lt_succ_iff_lt_or_eq.1 (Nat.lt_of_succ_lt_succ hj : j < i + 1)).elim (fun h => hI.2 j (Nat.succ_lt_succ h)) (fun h => by subst h; exact hle)⟩ (by show n - (i + 1) < n - i; omega) ⟨rfl, rfl, trivial⟩ (List.Sublist.refl _)
  · skip
    refine cexit ?_
    refine nthenE ?_
    refine nIE ?_
    refine nblkE ?_
    refine nthen ?_
    refine cseq ?_
    refine creg ?_
    refine l1 (asgb rfl) ?_
    refine lnil ?_
    refine nthen ?_
    refine cret ?_
    exact fin1b rfl rfl (Eq.symm (sortedT_iff.2 (fun j hj => hI.2 j (by have := df h1; omega))))

theorem rsorted_calls (w : World) (p : Option Addr) (n c : Nat) (t : Nat → Nat → Int) (hn : (n : Int) ≤ 9223372036854775807) (hl : Sl w p n 16 (fun i => arr .u8 16 (t i))) (hr : ∀ i, i < n → ∀ j, j < 16 → 0 ≤ t i j ∧ t i j ≤ 255) : Calls Try.prog 110 #[.slice p n c] w (Ret (.bool (sortedT n t)) w) := by
  refine fn_calls (n := 22) Try.func110 rfl rfl (lb rfl) ?_
  refine cseq ?_
  refine creg ?_
  refine l1 (asgb rfl) ?_
  refine lnil ?_
  refine nthen ?_
  refine cseq ?_
  refine cseq ?_
  refine creg ?_
  refine l1 (asgi rfl) ?_
  refine lnil ?_
  refine nthen ?_
  refine cblock ?_
  refine cloopI (σ := Nat) (fun s => [(0, .slice p n c), (3, .int .i64 ((s : Int)))]) (fun s => []) (fun s => (s = 0 ∨ s + 1 ≤ n) ∧ ∀ j, j + 1 < s + 1 → lessT (t j) (t (j + 1)) = true) (fun s => n - s) 0 ⟨.inl rfl, fun j hj => by omega⟩ ⟨rfl, rfl, trivial⟩ (List.Sublist.refl _) ?_
  rintro i j hI
  show WC _ _ _ ([]) _ _ (over j [(0, .slice p n c), (3, .int .i64 ((i : Int)))])
  replace hI : (i = 0 ∨ i + 1 ≤ n) ∧ ∀ j, j + 1 < i + 1 → lessT (t j) (t (j + 1)) = true := hI
  refine cseq ?_
  refine cseq ?_
  refine creg ?_
  refine l1 (mvi rfl) ?_
  refine l1 (addn rfl rfl (ri (by omega) (by omega))) ?_
  refine l1 (mvs rfl) ?_
  refine l1 (lens sl35 rfl rfl) ?_
  refine l1 (lss rfl rfl) ?_
  refine lnil ?_
  refine nthen ?_
  refine cif rfl (fun h1 => ?_) (fun h1 => ?_)
  · have hlt : i + 1 < n := by (have := dt h1; omega)
    obtain ⟨b, o, hp, hbl, hm⟩ := hl.at hlt
    refine cskip ?_
    refine nthen ?_
    refine cseq ?_
    refine cblock ?_
    refine cseq ?_
    refine cregq mo (by kernel_rfl) ?_
    refine q1 (mvs rfl) ?_
    refine q1 (mvi rfl) ?_
    refine q1 (isp sl35 hp rfl rfl (by omega) (by omega)) ?_
    refine q1 (ldam (vs := arr .u8 16 (t (i))) Try.isAgg34 Try.sizeOf34 rfl rfl (fun w' hw => by rw [show ((i : Int)).toNat = i from by omega]; exact (hm (i) (by omega)).kept hw.below hbl)) ?_
    refine q1 (mvs rfl) ?_
    refine q1 (mvi rfl) ?_
    refine q1 (addn rfl rfl (ri (by omega) (by omega))) ?_
    refine q1 (isp sl35 hp rfl rfl (by omega) (by omega)) ?_
    refine q1 (ldam (vs := arr .u8 16 (t (i + 1))) Try.isAgg34 Try.sizeOf34 rfl rfl (fun w' hw => by rw [show ((i : Int) + 1).toNat = i + 1 from by omega]; exact (hm (i + 1) (by omega)).kept hw.below hbl)) ?_
    refine q1 (cl hb98 rfl (mc rfl (mc rfl mn)) (fun w hw => less_calls _ _ w)) ?_
    refine q1 (nt rfl) ?_
    refine qnil ?_
    refine nthen ?_
    refine cif rfl (fun h2 => ?_) (fun h2 => ?_)
    · have hno : lessT (t i) (t (i + 1)) = false := by simpa using h2
      refine cseq ?_
      refine creg ?_
      refine l1 (asgb rfl) ?_
      refine lnil ?_
      refine nthen ?_
      refine cret ?_
      refine nblkR ?_
      refine nthenR ?_
      refine nIR ?_
      refine nblkR ?_
      refine nthenR ?_
      exact fin1b rfl rfl (Eq.symm (sortedT_no hlt hno))
    · have hle : lessT (t i) (t (i + 1)) = true := by simpa using h2
      refine cskip ?_
      refine nblkN ?_
      refine nthen ?_
      refine creg ?_
      refine l1 (mvi rfl) ?_
      first | refine l1 (addn rfl rfl (ri (by omega) (by omega))) ?_ | refine l1 (add rfl rfl) ?_
      refine l1 (asgi rfl) ?_
      refine lnil ?_
      exact nI (i + 1) ⟨by omega, fun j hj => (Nat.lt_succ_iff_lt_or_eq.1 (Nat.lt_of_succ_lt_succ hj : j < i + 1)).elim (fun h => hI.2 j (Nat.succ_lt_succ h)) (fun h => by subst h; exact hle)⟩ (by show n - (i + 1) < n - i; omega) ⟨rfl, rfl, trivial⟩ (List.Sublist.refl _)
  · skip
    refine cexit ?_
    refine nthenE ?_
    refine nIE ?_
    refine nblkE ?_
    refine nthen ?_
    refine cseq ?_
    refine creg ?_
    refine l1 (asgb rfl) ?_
    refine lnil ?_
    refine nthen ?_
    refine cret ?_
    exact fin1b rfl rfl (Eq.symm (sortedT_iff.2 (fun j hj => hI.2 j (by have := df h1; omega))))

theorem arr_eq {P : Program} (d : Nat) {t e : TypeId} {n : Nat} {k : IntKind} (hu : P.underlying t = some (.array n e)) (he : P.underlying e = some (.int k)) (hs : P.cellsOf e = 1) (a b : Nat → Int) (w : World) :
    (Op.equalIn (d + 2) t (.agg (arr k n a).toArray) (.agg (arr k n b).toArray)).run P w = .ok ((List.range n).all fun i => decide (a i = b i)) w := by
  obtain ⟨i, hi⟩ := info_of_underlying he
  rw [run_equalIn_array w (d + 1) _ _ hu hi]
  exact eq_items2 d he hs _ _ a b w _ (fun i hi => ⟨by have := arr_get (k := k) (f := a) (List.mem_range.1 hi); simpa using this, by have := arr_get (k := k) (f := b) (List.mem_range.1 hi); simpa using this⟩)
def eqA (n : Nat) (a b : Nat → Int) : Bool := (List.range n).all fun i => decide (a i = b i)
theorem eqA_iff {n : Nat} {a b : Nat → Int} : eqA n a b = true ↔ ∀ i, i < n → a i = b i := by
  simp [eqA, List.all_eq_true, List.mem_range]
theorem eqlArr {t e : TypeId} {n : Nat} {k : IntKind} {x y : Operand} (hu : Try.prog.underlying t = some (.array n e)) (he : Try.prog.underlying e = some (.int k)) (hs : Try.prog.cellsOf e = 1) (hg : Try.prog.eqGuardType Try.prog.depth t = false) (a b : Nat → Int) (w : World) :
    (do eqGuard .eql t x y (.agg (arr k n a).toArray) (.agg (arr k n b).toArray); binOp .eql t (.agg (arr k n a).toArray) (.agg (arr k n b).toArray)).run Try.prog w = .ok (.bool (eqA n a b)) w := by
  have he : (Op.equal t (.agg (arr k n a).toArray) (.agg (arr k n b).toArray)).run Try.prog w = .ok (eqA n a b) w := arr_eq 9998 hu he hs a b w
  simp [eqGuard, binOp, Sem.run_bind, run_program, hg, he]
theorem eql32 {x y : Operand} (a b : Nat → Int) (w : World) : (do eqGuard .eql 32 x y (.agg (arr .u8 32 a).toArray) (.agg (arr .u8 32 b).toArray); binOp .eql 32 (.agg (arr .u8 32 a).toArray) (.agg (arr .u8 32 b).toArray)).run Try.prog w = .ok (.bool (eqA 32 a b)) w := eqlArr Try.underlying32 Try.underlying5 (by kernel_rfl) (by kernel_rfl) a b w
theorem eql34 {x y : Operand} (a b : Nat → Int) (w : World) : (do eqGuard .eql 34 x y (.agg (arr .u8 16 a).toArray) (.agg (arr .u8 16 b).toArray); binOp .eql 34 (.agg (arr .u8 16 a).toArray) (.agg (arr .u8 16 b).toArray)).run Try.prog w = .ok (.bool (eqA 16 a b)) w := eqlArr Try.underlying34 Try.underlying5 (by kernel_rfl) (by kernel_rfl) a b w
theorem bk32z : ∀ w, (Instr.build 32 #[]).run Try.prog w = .ok (.agg (arr .u8 32 (fun _ => 0)).toArray) w := fun w => by kernel_rfl
theorem bk34z : ∀ w, (Instr.build 34 #[]).run Try.prog w = .ok (.agg (arr .u8 16 (fun _ => 0)).toArray) w := fun w => by kernel_rfl

theorem shl3_64_0 (x y : Operand) : ∀ w, (do eqGuard .shl 3 x y (.int .i64 64) (.int .i64 0); binOp .shl 3 (.int .i64 64) (.int .i64 0)).run Try.prog w = .ok (.int .i64 64) w := fun w => by kernel_rfl

theorem shl3_64_1 (x y : Operand) : ∀ w, (do eqGuard .shl 3 x y (.int .i64 64) (.int .i64 1); binOp .shl 3 (.int .i64 64) (.int .i64 1)).run Try.prog w = .ok (.int .i64 128) w := fun w => by kernel_rfl

theorem shl3_64_2 (x y : Operand) : ∀ w, (do eqGuard .shl 3 x y (.int .i64 64) (.int .i64 2); binOp .shl 3 (.int .i64 64) (.int .i64 2)).run Try.prog w = .ok (.int .i64 256) w := fun w => by kernel_rfl

theorem shl3_64_3 (x y : Operand) : ∀ w, (do eqGuard .shl 3 x y (.int .i64 64) (.int .i64 3); binOp .shl 3 (.int .i64 64) (.int .i64 3)).run Try.prog w = .ok (.int .i64 512) w := fun w => by kernel_rfl

theorem shl3_64_4 (x y : Operand) : ∀ w, (do eqGuard .shl 3 x y (.int .i64 64) (.int .i64 4); binOp .shl 3 (.int .i64 64) (.int .i64 4)).run Try.prog w = .ok (.int .i64 1024) w := fun w => by kernel_rfl

theorem shl3_64_5 (x y : Operand) : ∀ w, (do eqGuard .shl 3 x y (.int .i64 64) (.int .i64 5); binOp .shl 3 (.int .i64 64) (.int .i64 5)).run Try.prog w = .ok (.int .i64 2048) w := fun w => by kernel_rfl

def bucketB (n : Int) : Int := bif decide (n < 0) then 0 else bif decide (n < 64) then 64 else bif decide (n < 128) then 128 else bif decide (n < 256) then 256 else bif decide (n < 512) then 512 else bif decide (n < 1024) then 1024 else bif decide (n < 2048) then 2048 else 0
def bucketE (n : Int) : Int := bif decide (n < 0) then 1 else bif decide (n < 64) then 0 else bif decide (n < 128) then 0 else bif decide (n < 256) then 0 else bif decide (n < 512) then 0 else bif decide (n < 1024) then 0 else bif decide (n < 2048) then 0 else 3

theorem bucket_calls (n : Int) (w : World) : Calls Try.prog 131 #[.int .i64 n] w (Ret (.tuple #[.int .i64 (bucketB n), .int .i64 (bucketE n)]) w) := by
  refine fn_calls (n := 17) Try.func131 rfl rfl (lb rfl) ?_
  refine cseq ?_
  refine creg ?_
  refine l1 (asgi rfl) ?_
  refine l1 (asgi rfl) ?_
  refine lnil ?_
  refine nthen ?_
  refine cseq ?_
  refine cseq ?_
  refine creg ?_
  refine l1 (mvi rfl) ?_
  refine l1 (lss rfl rfl) ?_
  refine lnil ?_
  refine nthen ?_
  refine cif rfl (fun h1 => ?_) (fun h1 => ?_)
  · skip
    refine cseq ?_
    refine creg ?_
    refine l1 (asgi rfl) ?_
    refine l1 (asgi rfl) ?_
    refine lnil ?_
    refine nthen ?_
    refine cret ?_
    refine nthenR ?_
    exact fin (rv2 rfl (rvt (by simp only [bucketB, h1, cond_true, cond_false] <;> rfl)) (rvt (by simp only [bucketE, h1, cond_true, cond_false] <;> rfl)))
  · skip
    refine cskip ?_
    refine nthen ?_
    refine cseq ?_
    refine cseq ?_
    refine creg ?_
    refine l1 (mvi rfl) ?_
    refine lnil ?_
    refine nthen ?_
    refine cblock ?_
    refine cloopN 7 ?_
    refine rsucc ?_
    refine cseq ?_
    refine creg ?_
    refine l1 (lss rfl rfl) ?_
    refine lnil ?_
    refine nthen ?_
    refine cseq ?_
    refine cift rfl ?_
    refine cskip ?_
    refine nthen ?_
    refine cseq ?_
    refine cblock ?_
    refine cseq ?_
    refine creg ?_
    refine l1 (mvi rfl) ?_
    refine l1 (asgi rfl) ?_
    refine lnil ?_
    refine nthen ?_
    refine cseq ?_
    refine creg ?_
    refine l1 (mvi rfl) ?_
    refine l1 (mvi rfl) ?_
    refine l1 (binc rfl rfl (shl3_64_0 _ _)) ?_
    refine l1 (lss rfl rfl) ?_
    refine lnil ?_
    refine nthen ?_
    refine cif rfl (fun h2 => ?_) (fun h2 => ?_)
    · skip
      refine cseq ?_
      refine creg ?_
      refine l1 (mvi rfl) ?_
      refine l1 (binc rfl rfl (shl3_64_0 _ _)) ?_
      refine l1 (asgi rfl) ?_
      refine l1 (asgi rfl) ?_
      refine lnil ?_
      refine nthen ?_
      refine cret ?_
      refine nblkR ?_
      refine nthenR ?_
      refine nroundR ?_
      refine nblkR ?_
      refine nthenR ?_
      exact fin (rv2 rfl (rvt (by simp only [bucketB, h1, h2, cond_true, cond_false] <;> rfl)) (rvt (by simp only [bucketE, h1, h2, cond_true, cond_false] <;> rfl)))
    · skip
      refine cskip ?_
      refine nblkN ?_
      refine nthen ?_
      refine creg ?_
      first | refine l1 (addn rfl rfl (ri (by omega) (by omega))) ?_ | refine l1 (add rfl rfl) ?_
      refine l1 (mvi rfl) ?_
      refine lnil ?_
      refine nround (rsucc ?_)
      refine cseq ?_
      refine creg ?_
      refine l1 (lss rfl rfl) ?_
      refine lnil ?_
      refine nthen ?_
      refine cseq ?_
      refine cift rfl ?_
      refine cskip ?_
      refine nthen ?_
      refine cseq ?_
      refine cblock ?_
      refine cseq ?_
      refine creg ?_
      refine l1 (mvi rfl) ?_
      refine l1 (asgi rfl) ?_
      refine lnil ?_
      refine nthen ?_
      refine cseq ?_
      refine creg ?_
      refine l1 (mvi rfl) ?_
      refine l1 (mvi rfl) ?_
      refine l1 (binc rfl rfl (shl3_64_1 _ _)) ?_
      refine l1 (lss rfl rfl) ?_
      refine lnil ?_
      refine nthen ?_
      refine cif rfl (fun h3 => ?_) (fun h3 => ?_)
      · skip
        refine cseq ?_
        refine creg ?_
        refine l1 (mvi rfl) ?_
        refine l1 (binc rfl rfl (shl3_64_1 _ _)) ?_
        refine l1 (asgi rfl) ?_
        refine l1 (asgi rfl) ?_
        refine lnil ?_
        refine nthen ?_
        refine cret ?_
        refine nblkR ?_
        refine nthenR ?_
        refine nroundR ?_
        refine nblkR ?_
        refine nthenR ?_
        exact fin (rv2 rfl (rvt (by simp only [bucketB, h1, h2, h3, cond_true, cond_false] <;> rfl)) (rvt (by simp only [bucketE, h1, h2, h3, cond_true, cond_false] <;> rfl)))
      · skip
        refine cskip ?_
        refine nblkN ?_
        refine nthen ?_
        refine creg ?_
        first | refine l1 (addn rfl rfl (ri (by omega) (by omega))) ?_ | refine l1 (add rfl rfl) ?_
        refine l1 (mvi rfl) ?_
        refine lnil ?_
        refine nround (rsucc ?_)
        refine cseq ?_
        refine creg ?_
        refine l1 (lss rfl rfl) ?_
        refine lnil ?_
        refine nthen ?_
        refine cseq ?_
        refine cift rfl ?_
        refine cskip ?_
        refine nthen ?_
        refine cseq ?_
        refine cblock ?_
        refine cseq ?_
        refine creg ?_
        refine l1 (mvi rfl) ?_
        refine l1 (asgi rfl) ?_
        refine lnil ?_
        refine nthen ?_
        refine cseq ?_
        refine creg ?_
        refine l1 (mvi rfl) ?_
        refine l1 (mvi rfl) ?_
        refine l1 (binc rfl rfl (shl3_64_2 _ _)) ?_
        refine l1 (lss rfl rfl) ?_
        refine lnil ?_
        refine nthen ?_
        refine cif rfl (fun h4 => ?_) (fun h4 => ?_)
        · skip
          refine cseq ?_
          refine creg ?_
          refine l1 (mvi rfl) ?_
          refine l1 (binc rfl rfl (shl3_64_2 _ _)) ?_
          refine l1 (asgi rfl) ?_
          refine l1 (asgi rfl) ?_
          refine lnil ?_
          refine nthen ?_
          refine cret ?_
          refine nblkR ?_
          refine nthenR ?_
          refine nroundR ?_
          refine nblkR ?_
          refine nthenR ?_
          exact fin (rv2 rfl (rvt (by simp only [bucketB, h1, h2, h3, h4, cond_true, cond_false] <;> rfl)) (rvt (by simp only [bucketE, h1, h2, h3, h4, cond_true, cond_false] <;> rfl)))
        · skip
          refine cskip ?_
          refine nblkN ?_
          refine nthen ?_
          refine creg ?_
          first | refine l1 (addn rfl rfl (ri (by omega) (by omega))) ?_ | refine l1 (add rfl rfl) ?_
          refine l1 (mvi rfl) ?_
          refine lnil ?_
          refine nround (rsucc ?_)
          refine cseq ?_
          refine creg ?_
          refine l1 (lss rfl rfl) ?_
          refine lnil ?_
          refine nthen ?_
          refine cseq ?_
          refine cift rfl ?_
          refine cskip ?_
          refine nthen ?_
          refine cseq ?_
          refine cblock ?_
          refine cseq ?_
          refine creg ?_
          refine l1 (mvi rfl) ?_
          refine l1 (asgi rfl) ?_
          refine lnil ?_
          refine nthen ?_
          refine cseq ?_
          refine creg ?_
          refine l1 (mvi rfl) ?_
          refine l1 (mvi rfl) ?_
          refine l1 (binc rfl rfl (shl3_64_3 _ _)) ?_
          refine l1 (lss rfl rfl) ?_
          refine lnil ?_
          refine nthen ?_
          refine cif rfl (fun h5 => ?_) (fun h5 => ?_)
          · skip
            refine cseq ?_
            refine creg ?_
            refine l1 (mvi rfl) ?_
            refine l1 (binc rfl rfl (shl3_64_3 _ _)) ?_
            refine l1 (asgi rfl) ?_
            refine l1 (asgi rfl) ?_
            refine lnil ?_
            refine nthen ?_
            refine cret ?_
            refine nblkR ?_
            refine nthenR ?_
            refine nroundR ?_
            refine nblkR ?_
            refine nthenR ?_
            exact fin (rv2 rfl (rvt (by simp only [bucketB, h1, h2, h3, h4, h5, cond_true, cond_false] <;> rfl)) (rvt (by simp only [bucketE, h1, h2, h3, h4, h5, cond_true, cond_false] <;> rfl)))
          · skip
            refine cskip ?_
            refine nblkN ?_
            refine nthen ?_
            refine creg ?_
            first | refine l1 (addn rfl rfl (ri (by omega) (by omega))) ?_ | refine l1 (add rfl rfl) ?_
            refine l1 (mvi rfl) ?_
            refine lnil ?_
            refine nround (rsucc ?_)
            refine cseq ?_
            refine creg ?_
            refine l1 (lss rfl rfl) ?_
            refine lnil ?_
            refine nthen ?_
            refine cseq ?_
            refine cift rfl ?_
            refine cskip ?_
            refine nthen ?_
            refine cseq ?_
            refine cblock ?_
            refine cseq ?_
            refine creg ?_
            refine l1 (mvi rfl) ?_
            refine l1 (asgi rfl) ?_
            refine lnil ?_
            refine nthen ?_
            refine cseq ?_
            refine creg ?_
            refine l1 (mvi rfl) ?_
            refine l1 (mvi rfl) ?_
            refine l1 (binc rfl rfl (shl3_64_4 _ _)) ?_
            refine l1 (lss rfl rfl) ?_
            refine lnil ?_
            refine nthen ?_
            refine cif rfl (fun h6 => ?_) (fun h6 => ?_)
            · skip
              refine cseq ?_
              refine creg ?_
              refine l1 (mvi rfl) ?_
              refine l1 (binc rfl rfl (shl3_64_4 _ _)) ?_
              refine l1 (asgi rfl) ?_
              refine l1 (asgi rfl) ?_
              refine lnil ?_
              refine nthen ?_
              refine cret ?_
              refine nblkR ?_
              refine nthenR ?_
              refine nroundR ?_
              refine nblkR ?_
              refine nthenR ?_
              exact fin (rv2 rfl (rvt (by simp only [bucketB, h1, h2, h3, h4, h5, h6, cond_true, cond_false] <;> rfl)) (rvt (by simp only [bucketE, h1, h2, h3, h4, h5, h6, cond_true, cond_false] <;> rfl)))
            · skip
              refine cskip ?_
              refine nblkN ?_
              refine nthen ?_
              refine creg ?_
              first | refine l1 (addn rfl rfl (ri (by omega) (by omega))) ?_ | refine l1 (add rfl rfl) ?_
              refine l1 (mvi rfl) ?_
              refine lnil ?_
              refine nround (rsucc ?_)
              refine cseq ?_
              refine creg ?_
              refine l1 (lss rfl rfl) ?_
              refine lnil ?_
              refine nthen ?_
              refine cseq ?_
              refine cift rfl ?_
              refine cskip ?_
              refine nthen ?_
              refine cseq ?_
              refine cblock ?_
              refine cseq ?_
              refine creg ?_
              refine l1 (mvi rfl) ?_
              refine l1 (asgi rfl) ?_
              refine lnil ?_
              refine nthen ?_
              refine cseq ?_
              refine creg ?_
              refine l1 (mvi rfl) ?_
              refine l1 (mvi rfl) ?_
              refine l1 (binc rfl rfl (shl3_64_5 _ _)) ?_
              refine l1 (lss rfl rfl) ?_
              refine lnil ?_
              refine nthen ?_
              refine cif rfl (fun h7 => ?_) (fun h7 => ?_)
              · skip
                refine cseq ?_
                refine creg ?_
                refine l1 (mvi rfl) ?_
                refine l1 (binc rfl rfl (shl3_64_5 _ _)) ?_
                refine l1 (asgi rfl) ?_
                refine l1 (asgi rfl) ?_
                refine lnil ?_
                refine nthen ?_
                refine cret ?_
                refine nblkR ?_
                refine nthenR ?_
                refine nroundR ?_
                refine nblkR ?_
                refine nthenR ?_
                exact fin (rv2 rfl (rvt (by simp only [bucketB, h1, h2, h3, h4, h5, h6, h7, cond_true, cond_false] <;> rfl)) (rvt (by simp only [bucketE, h1, h2, h3, h4, h5, h6, h7, cond_true, cond_false] <;> rfl)))
              · skip
                refine cskip ?_
                refine nblkN ?_
                refine nthen ?_
                refine creg ?_
                first | refine l1 (addn rfl rfl (ri (by omega) (by omega))) ?_ | refine l1 (add rfl rfl) ?_
                refine l1 (mvi rfl) ?_
                refine lnil ?_
                refine nround (rsucc ?_)
                refine cseq ?_
                refine creg ?_
                refine l1 (lss rfl rfl) ?_
                refine lnil ?_
                refine nthen ?_
                refine cseq ?_
                refine ciff rfl ?_
                refine cexit ?_
                refine nthenE ?_
                refine nroundE ?_
                refine nblkE ?_
                refine nthen ?_
                refine cseq ?_
                refine creg ?_
                refine l1 (asgi rfl) ?_
                refine l1 (asgi rfl) ?_
                refine lnil ?_
                refine nthen ?_
                refine cret ?_
                exact fin (rv2 rfl (rvt (by simp only [bucketB, h1, h2, h3, h4, h5, h6, h7, cond_true, cond_false] <;> rfl)) (rvt (by simp only [bucketE, h1, h2, h3, h4, h5, h6, h7, cond_true, cond_false] <;> rfl)))

def isB (n : Int) : Bool := decide (bucketE (IntKind.i64.wrap (n - 1)) = 0) && decide (bucketB (IntKind.i64.wrap (n - 1)) = n)

theorem isPad_calls (n : Int) (w : World) : Calls Try.prog 109 #[.int .i64 n] w (Ret (.bool (isB n)) w) := by
  refine fn_calls (n := 18) Try.func109 rfl rfl (lb rfl) ?_
  refine cseq ?_
  refine creg ?_
  refine l1 (asgb rfl) ?_
  refine lnil ?_
  refine nthen ?_
  refine cseq ?_
  refine creg ?_
  refine l1 (mvi rfl) ?_
  first | refine l1 (subn rfl rfl (ri (by omega) (by omega))) ?_ | refine l1 (sub rfl rfl) ?_
  refine l1 (cl hb131 rfl (mc rfl mn) (fun w hw => bucket_calls _ w)) ?_
  refine l1 (mv rfl) ?_
  refine l1 (ext rfl rfl) ?_
  refine l1 (ext rfl rfl) ?_
  refine l1 (asgi rfl) ?_
  refine l1 (asgi rfl) ?_
  refine lnil ?_
  refine nthen ?_
  refine cseq ?_
  refine creg ?_
  refine l1 (mvi rfl) ?_
  refine l1 (eql rfl rfl) ?_
  refine l1 (mvb rfl) ?_
  refine l1g rfl (gwt rfl) (fun h => mvi rfl) ?_
  refine l1g rfl (gwt rfl) (fun h => mvi rfl) ?_
  refine l1g rfl (gwt rfl) (fun h => eql (gvt h) (gvt h)) ?_
  refine l1 (pk_and rfl rfl rfl) ?_
  refine l1 (asgb rfl) ?_
  refine lnil ?_
  refine nthen ?_
  refine cret ?_
  exact fin1 rfl rfl
end Go.Proofs.Ytkdbjhlkahkobaa
