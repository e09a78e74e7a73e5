/- walks, printed by a program of ours -/
import Derived.Test.YtkdbjhlkahkobaaTy
import Derived.Test.YtkdbjhlkahkobaaDef
import Derived.Test.YtkdbjhlkahkobaaWv
import Derived.Test.YtkdbjhlkahkobaaWh
import Derived.Test.YtkdbjhlkahkobaaByt
namespace Go.Proofs.Ytkdbjhlkahkobaa
open Jal Go.RowKit
set_option maxRecDepth 100000
theorem bcmp_calls (p q : Option Addr) (n m c d : Nat) (xs ys : List Int) (w : World) (hx : BySl w p n xs) (hy : BySl w q m ys) (hxr : ∀ x ∈ xs, 0 ≤ x ∧ x ≤ 255) (hyr : ∀ x ∈ ys, 0 ≤ x ∧ x ≤ 255) : Calls Try.prog 94 #[.slice p n c, .slice q m d] w (Ret (.int .i64 (lexI xs ys)) w) := by
  refine fn_calls (n := 8) Try.func94 rfl rfl (lb rfl) ?_
  refine cseq ?_
  refine creg ?_
  refine l1 (asgi rfl) ?_
  refine lnil ?_
  refine nthen ?_
  refine cseq ?_
  refine creg ?_
  refine l1 (mvs rfl) ?_
  refine l1 (mvs rfl) ?_
  refine l1 (clx ex124 rfl (mc rfl (mc rfl mn)) (fun w' hw => run_compare (hx.keptS hw) (hy.keptS hw) hxr hyr)) ?_
  refine l1 (asgi rfl) ?_
  refine lnil ?_
  refine nthen ?_
  refine cret ?_
  exact fin1 rfl rfl

theorem tcmp_calls (f g : Nat → Int) (hf : ∀ j, j < 16 → 0 ≤ f j ∧ f j ≤ 255) (hg : ∀ j, j < 16 → 0 ≤ g j ∧ g j ≤ 255)  (w : World) : Calls Try.prog 130 #[.agg (arr .u8 16 f).toArray, .agg (arr .u8 16 g).toArray] w (Ret (.int .i64 (lexI (tl 16 f) (tl 16 g))) w) := by
  refine fn_calls (n := 8) Try.func130 rfl rfl (lb rfl) ?_
  refine cseq ?_
  refine creg ?_
  refine lbxa rfl (fun b1 => ?_)
  refine lbxa rfl (fun b2 => ?_)
  refine l1 (asgi rfl) ?_
  refine lnil ?_
  refine nthen ?_
  refine cseq ?_
  refine cregq mo (by kernel_rfl) ?_
  refine q1 (slall Try.underlying34 Try.sizeOf5 rfl) ?_
  refine q1 (slall Try.underlying34 Try.sizeOf5 rfl) ?_
  refine q1 (cl hb94 rfl (mc rfl (mc rfl mn)) (fun w hw => bcmp_calls _ _ _ _ _ _ _ _ w (bySl_own hw (i := 0) rfl) (bySl_own hw (i := 1) rfl) (tl_mem hf) (tl_mem hg))) ?_
  refine q1 (asgi rfl) ?_
  refine qnil ?_
  refine nthen ?_
  refine cret ?_
  exact fin1 rfl rfl

theorem arr_at {k : IntKind} {n : Nat} (f : Nat → Int) {i : Nat} (h : i < n) : (arr k n f)[0 + ((i : Int)).toNat * 1]? = some (.int k (f i)) := by
  have := arr_get (k := k) (f := f) h; simpa using this

theorem less_calls (f g : Nat → Int) (w : World) : Calls Try.prog 98 #[.agg (arr .u8 16 f).toArray, .agg (arr .u8 16 g).toArray] w (Ret (.bool (lessT f g)) w) := by
  refine fn_calls (n := 24) Try.func98 rfl rfl (lb rfl) ?_
  refine cseq ?_
  refine creg ?_
  refine lbxa rfl (fun b1 => ?_)
  refine lbxa rfl (fun b2 => ?_)
  refine l1 (asgb rfl) ?_
  refine lnil ?_
  refine nthen ?_
  refine cseq ?_
  refine cseq ?_
  refine creg ?_
  refine l1 (asgi rfl) ?_
  refine lnil ?_
  refine nthen ?_
  refine cblock ?_
  refine cloopI (σ := Nat) (fun s => [(2, .pointer (some ⟨b1, 0, none⟩)), (3, .pointer (some ⟨b2, 0, none⟩)), (5, .int .i64 (s : Int))]) (fun s => [⟨b1, arr .u8 16 f, 34⟩, ⟨b2, arr .u8 16 g, 34⟩]) (fun s => s ≤ 16 ∧ ∀ j, j < s → f j = g j) (fun s => 16 - s) 0 ⟨Nat.zero_le _, fun j hj => by omega⟩ ⟨rfl, rfl, rfl, trivial⟩ (List.Sublist.refl _) ?_
  rintro i j hI
  show WC _ _ _ ([⟨b1, arr .u8 16 f, 34⟩, ⟨b2, arr .u8 16 g, 34⟩]) _ _ (over j [(2, .pointer (some ⟨b1, 0, none⟩)), (3, .pointer (some ⟨b2, 0, none⟩)), (5, .int .i64 (i : Int))])
  replace hI : i ≤ 16 ∧ ∀ j, j < i → f j = g j := hI
  refine cseq ?_
  refine cseq ?_
  refine creg ?_
  refine l1 (mvi rfl) ?_
  refine l1 (lss rfl rfl) ?_
  refine lnil ?_
  refine nthen ?_
  refine cif rfl (fun h1 => ?_) (fun h1 => ?_)
  · have hlt : i < 16 := by (have := dt h1; omega)
    refine cskip ?_
    refine nthen ?_
    refine cseq ?_
    refine cblock ?_
    refine cseq ?_
    refine cregq mo (by kernel_rfl) ?_
    refine q1 (mvi rfl) ?_
    refine q1 (ia ar34 rfl rfl (by omega) (by omega)) ?_
    refine q1 (ldc 0 Try.isAgg5 rfl rfl (arr_at _ hlt)) ?_
    refine q1 (mvi rfl) ?_
    refine q1 (ia ar34 rfl rfl (by omega) (by omega)) ?_
    refine q1 (ldc 1 Try.isAgg5 rfl rfl (arr_at _ hlt)) ?_
    refine q1 (neq rfl rfl) ?_
    refine qnil ?_
    refine nthen ?_
    refine cif rfl (fun h2 => ?_) (fun h2 => ?_)
    · have hne : f i ≠ g i := dt h2
      refine cseq ?_
      refine cregq mo (by kernel_rfl) ?_
      refine q1 (mvi rfl) ?_
      refine q1 (ia ar34 rfl rfl (by omega) (by omega)) ?_
      refine q1 (ldc 0 Try.isAgg5 rfl rfl (arr_at _ hlt)) ?_
      refine q1 (mvi rfl) ?_
      refine q1 (ia ar34 rfl rfl (by omega) (by omega)) ?_
      refine q1 (ldc 1 Try.isAgg5 rfl rfl (arr_at _ hlt)) ?_
      refine q1 (lss rfl rfl) ?_
      refine q1 (asgb rfl) ?_
      refine qnil ?_
      refine nthen ?_
      refine cret ?_
      refine nblkR ?_
      refine nthenR ?_
      refine nIR ?_
      refine nblkR ?_
      refine nthenR ?_
      exact fin1b rfl rfl (less_first hlt hI.2 hne)
    · have heq : f i = g i := df2 h2
      refine cskip ?_
      refine nblkN ?_
      refine nthen ?_
      refine creg ?_
      refine l1 (mvi rfl) ?_
      first | refine l1 (addn rfl rfl (ri (by omega) (by omega))) ?_ | refine l1 (add rfl rfl) ?_
      refine l1 (asgi rfl) ?_
      refine lnil ?_
      exact nI (i + 1) ⟨by omega, fun j hj => (Nat.lt_succ_iff_lt_or_eq.1 hj).elim (fun h => hI.2 j h) (fun h => by subst h; exact heq)⟩ (by show 16 - (i + 1) < 16 - i; omega) ⟨rfl, rfl, rfl, trivial⟩ (List.Sublist.refl _)
  · have hal : ∀ j, j < 16 → f j = g j := fun j hj => hI.2 j (by have := df h1; omega)
    refine cexit ?_
    refine nthenE ?_
    refine nIE ?_
    refine nblkE ?_
    refine nthen ?_
    refine cseq ?_
    refine creg ?_
    refine l1 (asgb rfl) ?_
    refine lnil ?_
    refine nthen ?_
    refine cret ?_
    exact fin1b rfl rfl (Eq.symm (less_none hal))

theorem sorted_calls (w : World) (p : Option Addr) (n c : Nat) (t : Nat → Nat → Int) (hn : (n : Int) ≤ 9223372036854775807) (hl : Sl w p n 16 (fun i => arr .u8 16 (t i))) (hr : ∀ i, i < n → ∀ j, j < 16 → 0 ≤ t i j ∧ t i j ≤ 255) : Calls Try.prog 108 #[.slice p n c] w (Ret (.bool (sortedT n t)) w) := by
  refine fn_calls (n := 21) Try.func108 rfl rfl (lb rfl) ?_
  refine cseq ?_
  refine creg ?_
  refine l1 (asgb rfl) ?_
  refine lnil ?_
  refine nthen ?_
  refine cseq ?_
  refine cseq ?_
  refine creg ?_
  refine l1 (asgi rfl) ?_
  refine lnil ?_
  refine nthen ?_
  refine cblock ?_
  refine cloopI (σ := Nat) (fun s => [(0, .slice p n c), (3, .int .i64 ((s : Int) + 1))]) (fun s => []) (fun s => (s = 0 ∨ s + 1 ≤ n) ∧ ∀ j, j + 1 < s + 1 → lessT (t j) (t (j + 1)) = true) (fun s => n - s) 0 ⟨.inl rfl, fun j hj => by omega⟩ ⟨rfl, rfl, trivial⟩ (List.Sublist.refl _) ?_
  rintro i j hI
  show WC _ _ _ ([]) _ _ (over j [(0, .slice p n c), (3, .int .i64 ((i : Int) + 1))])
  replace hI : (i = 0 ∨ i + 1 ≤ n) ∧ ∀ j, j + 1 < i + 1 → lessT (t j) (t (j + 1)) = true := hI
  refine cseq ?_
  refine cseq ?_
  refine creg ?_
  refine l1 (mvi rfl) ?_
  refine l1 (mvs rfl) ?_
  refine l1 (lens sl35 rfl rfl) ?_
  refine l1 (lss rfl rfl) ?_
  refine lnil ?_
  refine nthen ?_
  refine cif rfl (fun h1 => ?_) (fun h1 => ?_)
  · have hlt : i + 1 < n := by (have := dt h1; omega)
    obtain ⟨b, o, hp, hbl, hm⟩ := hl.at hlt
    refine cskip ?_
    refine nthen ?_
    refine cseq ?_
    refine cblock ?_
    refine cseq ?_
    refine cregq mo (by kernel_rfl) ?_
    refine q1 (mvs rfl) ?_
    refine q1 (mvi rfl) ?_
    refine q1 (subn rfl rfl (ri (by omega) (by omega))) ?_
    refine q1 (isp sl35 hp rfl rfl (by omega) (by omega)) ?_
    refine q1 (ldam (vs := arr .u8 16 (t (i))) Try.isAgg34 Try.sizeOf34 rfl rfl (fun w' hw => by rw [show ((i : Int) + 1 - 1).toNat = i from by omega]; exact (hm (i) (by omega)).kept hw.below hbl)) ?_
    refine q1 (mvs rfl) ?_
    refine q1 (mvi rfl) ?_
    refine q1 (isp sl35 hp rfl rfl (by omega) (by omega)) ?_
    refine q1 (ldam (vs := arr .u8 16 (t (i + 1))) Try.isAgg34 Try.sizeOf34 rfl rfl (fun w' hw => by rw [show ((i : Int) + 1).toNat = i + 1 from by omega]; exact (hm (i + 1) (by omega)).kept hw.below hbl)) ?_
    refine q1 (cl hb130 rfl (mc rfl (mc rfl mn)) (fun w hw => tcmp_calls _ _ (hr i (by omega)) (hr (i + 1) (by omega)) w)) ?_
    refine q1 (geq rfl rfl) ?_
    refine qnil ?_
    refine nthen ?_
    refine cif rfl (fun h2 => ?_) (fun h2 => ?_)
    · have hno : lessT (t i) (t (i + 1)) = false := by (have := dt h2; unfold lessT; exact decide_eq_false (by omega))
      refine cseq ?_
      refine creg ?_
      refine l1 (asgb rfl) ?_
      refine lnil ?_
      refine nthen ?_
      refine cret ?_
      refine nblkR ?_
      refine nthenR ?_
      refine nIR ?_
      refine nblkR ?_
      refine nthenR ?_
      exact fin1b rfl rfl (Eq.symm (sortedT_no hlt hno))
    · have hle : lessT (t i) (t (i + 1)) = true := by (have := df h2; unfold lessT; exact decide_eq_true (by omega))
      refine cskip ?_
      refine nblkN ?_
      refine nthen ?_
      refine creg ?_
      refine l1 (mvi rfl) ?_
      first | refine l1 (addn rfl rfl (ri (by omega) (by omega))) ?_ | refine l1 (add rfl rfl) ?_
      refine l1 (asgi rfl) ?_
      refine lnil ?_
      exact nI (i + 1) ⟨by omega, fun j hj => (Nat.lt_succ_iff_lt_or_eq.1 (Nat.lt_of_succ_lt_succ hj : j < i + 1)).elim (fun h => hI.2 j (Nat.succ_lt_succ h)) (fun h => by subst h; exact hle)⟩ (by show n - (i + 1) < n - i; omega) ⟨rfl, rfl, trivial⟩ (List.Sublist.refl _)
  · skip
    refine cexit ?_
    refine nthenE ?_
    refine nIE ?_
    refine nblkE ?_
    refine nthen ?_
    refine cseq ?_
    refine creg ?_
    refine l1 (asgb rfl) ?_
    refine lnil ?_
    refine nthen ?_
    refine cret ?_
    exact fin1b rfl rfl (Eq.symm (sortedT_iff.2 (fun j hj => hI.2 j (by have := df h1; omega))))

theorem rsorted_calls (w : World) (p : Option Addr) (n c : Nat) (t : Nat → Nat → Int) (hn : (n : Int) ≤ 9223372036854775807) (hl : Sl w p n 16 (fun i => arr .u8 16 (t i))) (hr : ∀ i, i < n → ∀ j, j < 16 → 0 ≤ t i j ∧ t i j ≤ 255) : Calls Try.prog 110 #[.slice p n c] w (Ret (.bool (sortedT n t)) w) := by
  refine fn_calls (n := 22) Try.func110 rfl rfl (lb rfl) ?_
  refine cseq ?_
  refine creg ?_
  refine l1 (asgb rfl) ?_
  refine lnil ?_
  refine nthen ?_
  refine cseq ?_
  refine cseq ?_
  refine creg ?_
  refine l1 (asgi rfl) ?_
  refine lnil ?_
  refine nthen ?_
  refine cblock ?_
  refine cloopI (σ := Nat) (fun s => [(0, .slice p n c), (3, .int .i64 ((s : Int)))]) (fun s => []) (fun s => (s = 0 ∨ s + 1 ≤ n) ∧ ∀ j, j + 1 < s + 1 → lessT (t j) (t (j + 1)) = true) (fun s => n - s) 0 ⟨.inl rfl, fun j hj => by omega⟩ ⟨rfl, rfl, trivial⟩ (List.Sublist.refl _) ?_
  rintro i j hI
  show WC _ _ _ ([]) _ _ (over j [(0, .slice p n c), (3, .int .i64 ((i : Int)))])
  replace hI : (i = 0 ∨ i + 1 ≤ n) ∧ ∀ j, j + 1 < i + 1 → lessT (t j) (t (j + 1)) = true := hI
  refine cseq ?_
  refine cseq ?_
  refine creg ?_
  refine l1 (mvi rfl) ?_
  refine l1 (addn rfl rfl (ri (by omega) (by omega))) ?_
  refine l1 (mvs rfl) ?_
  refine l1 (lens sl35 rfl rfl) ?_
  refine l1 (lss rfl rfl) ?_
  refine lnil ?_
  refine nthen ?_
  refine cif rfl (fun h1 => ?_) (fun h1 => ?_)
  · have hlt : i + 1 < n := by (have := dt h1; omega)
    obtain ⟨b, o, hp, hbl, hm⟩ := hl.at hlt
    refine cskip ?_
    refine nthen ?_
    refine cseq ?_
    refine cblock ?_
    refine cseq ?_
    refine cregq mo (by kernel_rfl) ?_
    refine q1 (mvs rfl) ?_
    refine q1 (mvi rfl) ?_
    refine q1 (isp sl35 hp rfl rfl (by omega) (by omega)) ?_
    refine q1 (ldam (vs := arr .u8 16 (t (i))) Try.isAgg34 Try.sizeOf34 rfl rfl (fun w' hw => by rw [show ((i : Int)).toNat = i from by omega]; exact (hm (i) (by omega)).kept hw.below hbl)) ?_
    refine q1 (mvs rfl) ?_
    refine q1 (mvi rfl) ?_
    refine q1 (addn rfl rfl (ri (by omega) (by omega))) ?_
    refine q1 (isp sl35 hp rfl rfl (by omega) (by omega)) ?_
    refine q1 (ldam (vs := arr .u8 16 (t (i + 1))) Try.isAgg34 Try.sizeOf34 rfl rfl (fun w' hw => by rw [show ((i : Int) + 1).toNat = i + 1 from by omega]; exact (hm (i + 1) (by omega)).kept hw.below hbl)) ?_
    refine q1 (cl hb98 rfl (mc rfl (mc rfl mn)) (fun w hw => less_calls _ _ w)) ?_
    refine q1 (nt rfl) ?_
    refine qnil ?_
    refine nthen ?_
    refine cif rfl (fun h2 => ?_) (fun h2 => ?_)
    · have hno : lessT (t i) (t (i + 1)) = false := by simpa using h2
      refine cseq ?_
      refine creg ?_
      refine l1 (asgb rfl) ?_
      refine lnil ?_
      refine nthen ?_
      refine cret ?_
      refine nblkR ?_
      refine nthenR ?_
      refine nIR ?_
      refine nblkR ?_
      refine nthenR ?_
      exact fin1b rfl rfl (Eq.symm (sortedT_no hlt hno))
    · have hle : lessT (t i) (t (i + 1)) = true := by simpa using h2
      refine cskip ?_
      refine nblkN ?_
      refine nthen ?_
      refine creg ?_
      refine l1 (mvi rfl) ?_
      first | refine l1 (addn rfl rfl (ri (by omega) (by omega))) ?_ | refine l1 (add rfl rfl) ?_
      refine l1 (asgi rfl) ?_
      refine lnil ?_
      exact nI (i + 1) ⟨by omega, fun j hj => (Nat.lt_succ_iff_lt_or_eq.1 (Nat.lt_of_succ_lt_succ hj : j < i + 1)).elim (fun h => hI.2 j (Nat.succ_lt_succ h)) (fun h => by subst h; exact hle)⟩ (by show n - (i + 1) < n - i; omega) ⟨rfl, rfl, trivial⟩ (List.Sublist.refl _)
  · skip
    refine cexit ?_
    refine nthenE ?_
    refine nIE ?_
    refine nblkE ?_
    refine nthen ?_
    refine cseq ?_
    refine creg ?_
    refine l1 (asgb rfl) ?_
    refine lnil ?_
    refine nthen ?_
    refine cret ?_
    exact fin1b rfl rfl (Eq.symm (sortedT_iff.2 (fun j hj => hI.2 j (by have := df h1; omega))))

theorem arr_eq {P : Program} (d : Nat) {t e : TypeId} {n : Nat} {k : IntKind} (hu : P.underlying t = some (.array n e)) (he : P.underlying e = some (.int k)) (hs : P.cellsOf e = 1) (a b : Nat → Int) (w : World) :
    (Op.equalIn (d + 2) t (.agg (arr k n a).toArray) (.agg (arr k n b).toArray)).run P w = .ok ((List.range n).all fun i => decide (a i = b i)) w := by
  obtain ⟨i, hi⟩ := info_of_underlying he
  rw [run_equalIn_array w (d + 1) _ _ hu hi]
  exact eq_items2 d he hs _ _ a b w _ (fun i hi => ⟨by have := arr_get (k := k) (f := a) (List.mem_range.1 hi); simpa using this, by have := arr_get (k := k) (f := b) (List.mem_range.1 hi); simpa using this⟩)
def eqA (n : Nat) (a b : Nat → Int) : Bool := (List.range n).all fun i => decide (a i = b i)
theorem eqA_iff {n : Nat} {a b : Nat → Int} : eqA n a b = true ↔ ∀ i, i < n → a i = b i := by
  simp [eqA, List.all_eq_true, List.mem_range]
theorem eqlArr {t e : TypeId} {n : Nat} {k : IntKind} {x y : Operand} (hu : Try.prog.underlying t = some (.array n e)) (he : Try.prog.underlying e = some (.int k)) (hs : Try.prog.cellsOf e = 1) (hg : Try.prog.eqGuardType Try.prog.depth t = false) (a b : Nat → Int) (w : World) :
    (do eqGuard .eql t x y (.agg (arr k n a).toArray) (.agg (arr k n b).toArray); binOp .eql t (.agg (arr k n a).toArray) (.agg (arr k n b).toArray)).run Try.prog w = .ok (.bool (eqA n a b)) w := by
  have he : (Op.equal t (.agg (arr k n a).toArray) (.agg (arr k n b).toArray)).run Try.prog w = .ok (eqA n a b) w := arr_eq 9998 hu he hs a b w
  simp [eqGuard, binOp, Sem.run_bind, run_program, hg, he]
theorem eql32 {x y : Operand} (a b : Nat → Int) (w : World) : (do eqGuard .eql 32 x y (.agg (arr .u8 32 a).toArray) (.agg (arr .u8 32 b).toArray); binOp .eql 32 (.agg (arr .u8 32 a).toArray) (.agg (arr .u8 32 b).toArray)).run Try.prog w = .ok (.bool (eqA 32 a b)) w := eqlArr Try.underlying32 Try.underlying5 (by kernel_rfl) (by kernel_rfl) a b w
theorem eql34 {x y : Operand} (a b : Nat → Int) (w : World) : (do eqGuard .eql 34 x y (.agg (arr .u8 16 a).toArray) (.agg (arr .u8 16 b).toArray); binOp .eql 34 (.agg (arr .u8 16 a).toArray) (.agg (arr .u8 16 b).toArray)).run Try.prog w = .ok (.bool (eqA 16 a b)) w := eqlArr Try.underlying34 Try.underlying5 (by kernel_rfl) (by kernel_rfl) a b w
theorem bk32z : ∀ w, (Instr.build 32 #[]).run Try.prog w = .ok (.agg (arr .u8 32 (fun _ => 0)).toArray) w := fun w => by kernel_rfl
theorem bk34z : ∀ w, (Instr.build 34 #[]).run Try.prog w = .ok (.agg (arr .u8 16 (fun _ => 0)).toArray) w := fun w => by kernel_rfl

theorem shl3_64_0 (x y : Operand) : ∀ w, (do eqGuard .shl 3 x y (.int .i64 64) (.int .i64 0); binOp .shl 3 (.int .i64 64) (.int .i64 0)).run Try.prog w = .ok (.int .i64 64) w := fun w => by kernel_rfl

theorem shl3_64_1 (x y : Operand) : ∀ w, (do eqGuard .shl 3 x y (.int .i64 64) (.int .i64 1); binOp .shl 3 (.int .i64 64) (.int .i64 1)).run Try.prog w = .ok (.int .i64 128) w := fun w => by kernel_rfl

theorem shl3_64_2 (x y : Operand) : ∀ w, (do eqGuard .shl 3 x y (.int .i64 64) (.int .i64 2); binOp .shl 3 (.int .i64 64) (.int .i64 2)).run Try.prog w = .ok (.int .i64 256) w := fun w => by kernel_rfl

theorem shl3_64_3 (x y : Operand) : ∀ w, (do eqGuard .shl 3 x y (.int .i64 64) (.int .i64 3); binOp .shl 3 (.int .i64 64) (.int .i64 3)).run Try.prog w = .ok (.int .i64 512) w := fun w => by kernel_rfl

theorem shl3_64_4 (x y : Operand) : ∀ w, (do eqGuard .shl 3 x y (.int .i64 64) (.int .i64 4); binOp .shl 3 (.int .i64 64) (.int .i64 4)).run Try.prog w = .ok (.int .i64 1024) w := fun w => by kernel_rfl

theorem shl3_64_5 (x y : Operand) : ∀ w, (do eqGuard .shl 3 x y (.int .i64 64) (.int .i64 5); binOp .shl 3 (.int .i64 64) (.int .i64 5)).run Try.prog w = .ok (.int .i64 2048) w := fun w => by kernel_rfl

def bucketB (n : Int) : Int := bif decide (n < 0) then 0 else bif decide (n < 64) then 64 else bif decide (n < 128) then 128 else bif decide (n < 256) then 256 else bif decide (n < 512) then 512 else bif decide (n < 1024) then 1024 else bif decide (n < 2048) then 2048 else 0
def bucketE (n : Int) : Int := bif decide (n < 0) then 1 else bif decide (n < 64) then 0 else bif decide (n < 128) then 0 else bif decide (n < 256) then 0 else bif decide (n < 512) then 0 else bif decide (n < 1024) then 0 else bif decide (n < 2048) then 0 else 3

theorem bucket_calls (n : Int) (w : World) : Calls Try.prog 131 #[.int .i64 n] w (Ret (.tuple #[.int .i64 (bucketB n), .int .i64 (bucketE n)]) w) := by
  refine fn_calls (n := 17) Try.func131 rfl rfl (lb rfl) ?_
  refine cseq ?_
  refine creg ?_
  refine l1 (asgi rfl) ?_
  refine l1 (asgi rfl) ?_
  refine lnil ?_
  refine nthen ?_
  refine cseq ?_
  refine cseq ?_
  refine creg ?_
  refine l1 (mvi rfl) ?_
  refine l1 (lss rfl rfl) ?_
  refine lnil ?_
  refine nthen ?_
  refine cif rfl (fun h1 => ?_) (fun h1 => ?_)
  · skip
    refine cseq ?_
    refine creg ?_
    refine l1 (asgi rfl) ?_
    refine l1 (asgi rfl) ?_
    refine lnil ?_
    refine nthen ?_
    refine cret ?_
    refine nthenR ?_
    exact fin (rv2 rfl (rvt (by simp only [bucketB, h1, cond_true, cond_false] <;> rfl)) (rvt (by simp only [bucketE, h1, cond_true, cond_false] <;> rfl)))
  · skip
    refine cskip ?_
    refine nthen ?_
    refine cseq ?_
    refine cseq ?_
    refine creg ?_
    refine l1 (mvi rfl) ?_
    refine lnil ?_
    refine nthen ?_
    refine cblock ?_
    refine cloopN 7 ?_
    refine rsucc ?_
    refine cseq ?_
    refine creg ?_
    refine l1 (lss rfl rfl) ?_
    refine lnil ?_
    refine nthen ?_
    refine cseq ?_
    refine cift rfl ?_
    refine cskip ?_
    refine nthen ?_
    refine cseq ?_
    refine cblock ?_
    refine cseq ?_
    refine creg ?_
    refine l1 (mvi rfl) ?_
    refine l1 (asgi rfl) ?_
    refine lnil ?_
    refine nthen ?_
    refine cseq ?_
    refine creg ?_
    refine l1 (mvi rfl) ?_
    refine l1 (mvi rfl) ?_
    refine l1 (binc rfl rfl (shl3_64_0 _ _)) ?_
    refine l1 (lss rfl rfl) ?_
    refine lnil ?_
    refine nthen ?_
    refine cif rfl (fun h2 => ?_) (fun h2 => ?_)
    · skip
      refine cseq ?_
      refine creg ?_
      refine l1 (mvi rfl) ?_
      refine l1 (binc rfl rfl (shl3_64_0 _ _)) ?_
      refine l1 (asgi rfl) ?_
      refine l1 (asgi rfl) ?_
      refine lnil ?_
      refine nthen ?_
      refine cret ?_
      refine nblkR ?_
      refine nthenR ?_
      refine nroundR ?_
      refine nblkR ?_
      refine nthenR ?_
      exact fin (rv2 rfl (rvt (by simp only [bucketB, h1, h2, cond_true, cond_false] <;> rfl)) (rvt (by simp only [bucketE, h1, h2, cond_true, cond_false] <;> rfl)))
    · skip
      refine cskip ?_
      refine nblkN ?_
      refine nthen ?_
      refine creg ?_
      first | refine l1 (addn rfl rfl (ri (by omega) (by omega))) ?_ | refine l1 (add rfl rfl) ?_
      refine l1 (mvi rfl) ?_
      refine lnil ?_
      refine nround (rsucc ?_)
      refine cseq ?_
      refine creg ?_
      refine l1 (lss rfl rfl) ?_
      refine lnil ?_
      refine nthen ?_
      refine cseq ?_
      refine cift rfl ?_
      refine cskip ?_
      refine nthen ?_
      refine cseq ?_
      refine cblock ?_
      refine cseq ?_
      refine creg ?_
      refine l1 (mvi rfl) ?_
      refine l1 (asgi rfl) ?_
      refine lnil ?_
      refine nthen ?_
      refine cseq ?_
      refine creg ?_
      refine l1 (mvi rfl) ?_
      refine l1 (mvi rfl) ?_
      refine l1 (binc rfl rfl (shl3_64_1 _ _)) ?_
      refine l1 (lss rfl rfl) ?_
      refine lnil ?_
      refine nthen ?_
      refine cif rfl (fun h3 => ?_) (fun h3 => ?_)
      · skip
        refine cseq ?_
        refine creg ?_
        refine l1 (mvi rfl) ?_
        refine l1 (binc rfl rfl (shl3_64_1 _ _)) ?_
        refine l1 (asgi rfl) ?_
        refine l1 (asgi rfl) ?_
        refine lnil ?_
        refine nthen ?_
        refine cret ?_
        refine nblkR ?_
        refine nthenR ?_
        refine nroundR ?_
        refine nblkR ?_
        refine nthenR ?_
        exact fin (rv2 rfl (rvt (by simp only [bucketB, h1, h2, h3, cond_true, cond_false] <;> rfl)) (rvt (by simp only [bucketE, h1, h2, h3, cond_true, cond_false] <;> rfl)))
      · skip
        refine cskip ?_
        refine nblkN ?_
        refine nthen ?_
        refine creg ?_
        first | refine l1 (addn rfl rfl (ri (by omega) (by omega))) ?_ | refine l1 (add rfl rfl) ?_
        refine l1 (mvi rfl) ?_
        refine lnil ?_
        refine nround (rsucc ?_)
        refine cseq ?_
        refine creg ?_
        refine l1 (lss rfl rfl) ?_
        refine lnil ?_
        refine nthen ?_
        refine cseq ?_
        refine cift rfl ?_
        refine cskip ?_
        refine nthen ?_
        refine cseq ?_
        refine cblock ?_
        refine cseq ?_
        refine creg ?_
        refine l1 (mvi rfl) ?_
        refine l1 (asgi rfl) ?_
        refine lnil ?_
        refine nthen ?_
        refine cseq ?_
        refine creg ?_
        refine l1 (mvi rfl) ?_
        refine l1 (mvi rfl) ?_
        refine l1 (binc rfl rfl (shl3_64_2 _ _)) ?_
        refine l1 (lss rfl rfl) ?_
        refine lnil ?_
        refine nthen ?_
        refine cif rfl (fun h4 => ?_) (fun h4 => ?_)
        · skip
          refine cseq ?_
          refine creg ?_
          refine l1 (mvi rfl) ?_
          refine l1 (binc rfl rfl (shl3_64_2 _ _)) ?_
          refine l1 (asgi rfl) ?_
          refine l1 (asgi rfl) ?_
          refine lnil ?_
          refine nthen ?_
          refine cret ?_
          refine nblkR ?_
          refine nthenR ?_
          refine nroundR ?_
          refine nblkR ?_
          refine nthenR ?_
          exact fin (rv2 rfl (rvt (by simp only [bucketB, h1, h2, h3, h4, cond_true, cond_false] <;> rfl)) (rvt (by simp only [bucketE, h1, h2, h3, h4, cond_true, cond_false] <;> rfl)))
        · skip
          refine cskip ?_
          refine nblkN ?_
          refine nthen ?_
          refine creg ?_
          first | refine l1 (addn rfl rfl (ri (by omega) (by omega))) ?_ | refine l1 (add rfl rfl) ?_
          refine l1 (mvi rfl) ?_
          refine lnil ?_
          refine nround (rsucc ?_)
          refine cseq ?_
          refine creg ?_
          refine l1 (lss rfl rfl) ?_
          refine lnil ?_
          refine nthen ?_
          refine cseq ?_
          refine cift rfl ?_
          refine cskip ?_
          refine nthen ?_
          refine cseq ?_
          refine cblock ?_
          refine cseq ?_
          refine creg ?_
          refine l1 (mvi rfl) ?_
          refine l1 (asgi rfl) ?_
          refine lnil ?_
          refine nthen ?_
          refine cseq ?_
          refine creg ?_
          refine l1 (mvi rfl) ?_
          refine l1 (mvi rfl) ?_
          refine l1 (binc rfl rfl (shl3_64_3 _ _)) ?_
          refine l1 (lss rfl rfl) ?_
          refine lnil ?_
          refine nthen ?_
          refine cif rfl (fun h5 => ?_) (fun h5 => ?_)
          · skip
            refine cseq ?_
            refine creg ?_
            refine l1 (mvi rfl) ?_
            refine l1 (binc rfl rfl (shl3_64_3 _ _)) ?_
            refine l1 (asgi rfl) ?_
            refine l1 (asgi rfl) ?_
            refine lnil ?_
            refine nthen ?_
            refine cret ?_
            refine nblkR ?_
            refine nthenR ?_
            refine nroundR ?_
            refine nblkR ?_
            refine nthenR ?_
            exact fin (rv2 rfl (rvt (by simp only [bucketB, h1, h2, h3, h4, h5, cond_true, cond_false] <;> rfl)) (rvt (by simp only [bucketE, h1, h2, h3, h4, h5, cond_true, cond_false] <;> rfl)))
          · skip
            refine cskip ?_
            refine nblkN ?_
            refine nthen ?_
            refine creg ?_
            first | refine l1 (addn rfl rfl (ri (by omega) (by omega))) ?_ | refine l1 (add rfl rfl) ?_
            refine l1 (mvi rfl) ?_
            refine lnil ?_
            refine nround (rsucc ?_)
            refine cseq ?_
            refine creg ?_
            refine l1 (lss rfl rfl) ?_
            refine lnil ?_
            refine nthen ?_
            refine cseq ?_
            refine cift rfl ?_
            refine cskip ?_
            refine nthen ?_
            refine cseq ?_
            refine cblock ?_
            refine cseq ?_
            refine creg ?_
            refine l1 (mvi rfl) ?_
            refine l1 (asgi rfl) ?_
            refine lnil ?_
            refine nthen ?_
            refine cseq ?_
            refine creg ?_
            refine l1 (mvi rfl) ?_
            refine l1 (mvi rfl) ?_
            refine l1 (binc rfl rfl (shl3_64_4 _ _)) ?_
            refine l1 (lss rfl rfl) ?_
            refine lnil ?_
            refine nthen ?_
            refine cif rfl (fun h6 => ?_) (fun h6 => ?_)
            · skip
              refine cseq ?_
              refine creg ?_
              refine l1 (mvi rfl) ?_
              refine l1 (binc rfl rfl (shl3_64_4 _ _)) ?_
              refine l1 (asgi rfl) ?_
              refine l1 (asgi rfl) ?_
              refine lnil ?_
              refine nthen ?_
              refine cret ?_
              refine nblkR ?_
              refine nthenR ?_
              refine nroundR ?_
              refine nblkR ?_
              refine nthenR ?_
              exact fin (rv2 rfl (rvt (by simp only [bucketB, h1, h2, h3, h4, h5, h6, cond_true, cond_false] <;> rfl)) (rvt (by simp only [bucketE, h1, h2, h3, h4, h5, h6, cond_true, cond_false] <;> rfl)))
            · skip
              refine cskip ?_
              refine nblkN ?_
              refine nthen ?_
              refine creg ?_
              first | refine l1 (addn rfl rfl (ri (by omega) (by omega))) ?_ | refine l1 (add rfl rfl) ?_
              refine l1 (mvi rfl) ?_
              refine lnil ?_
              refine nround (rsucc ?_)
              refine cseq ?_
              refine creg ?_
              refine l1 (lss rfl rfl) ?_
              refine lnil ?_
              refine nthen ?_
              refine cseq ?_
              refine cift rfl ?_
              refine cskip ?_
              refine nthen ?_
              refine cseq ?_
              refine cblock ?_
              refine cseq ?_
              refine creg ?_
              refine l1 (mvi rfl) ?_
              refine l1 (asgi rfl) ?_
              refine lnil ?_
              refine nthen ?_
              refine cseq ?_
              refine creg ?_
              refine l1 (mvi rfl) ?_
              refine l1 (mvi rfl) ?_
              refine l1 (binc rfl rfl (shl3_64_5 _ _)) ?_
              refine l1 (lss rfl rfl) ?_
              refine lnil ?_
              refine nthen ?_
              refine cif rfl (fun h7 => ?_) (fun h7 => ?_)
              · skip
                refine cseq ?_
                refine creg ?_
                refine l1 (mvi rfl) ?_
                refine l1 (binc rfl rfl (shl3_64_5 _ _)) ?_
                refine l1 (asgi rfl) ?_
                refine l1 (asgi rfl) ?_
                refine lnil ?_
                refine nthen ?_
                refine cret ?_
                refine nblkR ?_
                refine nthenR ?_
                refine nroundR ?_
                refine nblkR ?_
                refine nthenR ?_
                exact fin (rv2 rfl (rvt (by simp only [bucketB, h1, h2, h3, h4, h5, h6, h7, cond_true, cond_false] <;> rfl)) (rvt (by simp only [bucketE, h1, h2, h3, h4, h5, h6, h7, cond_true, cond_false] <;> rfl)))
              · skip
                refine cskip ?_
                refine nblkN ?_
                refine nthen ?_
                refine creg ?_
                first | refine l1 (addn rfl rfl (ri (by omega) (by omega))) ?_ | refine l1 (add rfl rfl) ?_
                refine l1 (mvi rfl) ?_
                refine lnil ?_
                refine nround (rsucc ?_)
                refine cseq ?_
                refine creg ?_
                refine l1 (lss rfl rfl) ?_
                refine lnil ?_
                refine nthen ?_
                refine cseq ?_
                refine ciff rfl ?_
                refine cexit ?_
                refine nthenE ?_
                refine nroundE ?_
                refine nblkE ?_
                refine nthen ?_
                refine cseq ?_
                refine creg ?_
                refine l1 (asgi rfl) ?_
                refine l1 (asgi rfl) ?_
                refine lnil ?_
                refine nthen ?_
                refine cret ?_
                exact fin (rv2 rfl (rvt (by simp only [bucketB, h1, h2, h3, h4, h5, h6, h7, cond_true, cond_false] <;> rfl)) (rvt (by simp only [bucketE, h1, h2, h3, h4, h5, h6, h7, cond_true, cond_false] <;> rfl)))

def isB (n : Int) : Bool := decide (bucketE (IntKind.i64.wrap (n - 1)) = 0) && decide (bucketB (IntKind.i64.wrap (n - 1)) = n)

theorem isPad_calls (n : Int) (w : World) : Calls Try.prog 109 #[.int .i64 n] w (Ret (.bool (isB n)) w) := by
  refine fn_calls (n := 18) Try.func109 rfl rfl (lb rfl) ?_
  refine cseq ?_
  refine creg ?_
  refine l1 (asgb rfl) ?_
  refine lnil ?_
  refine nthen ?_
  refine cseq ?_
  refine creg ?_
  refine l1 (mvi rfl) ?_
  first | refine l1 (subn rfl rfl (ri (by omega) (by omega))) ?_ | refine l1 (sub rfl rfl) ?_
  refine l1 (cl hb131 rfl (mc rfl mn) (fun w hw => bucket_calls _ w)) ?_
  refine l1 (mv rfl) ?_
  refine l1 (ext rfl rfl) ?_
  refine l1 (ext rfl rfl) ?_
  refine l1 (asgi rfl) ?_
  refine l1 (asgi rfl) ?_
  refine lnil ?_
  refine nthen ?_
  refine cseq ?_
  refine creg ?_
  refine l1 (mvi rfl) ?_
  refine l1 (eql rfl rfl) ?_
  refine l1 (mvb rfl) ?_
  refine l1g rfl (gwt rfl) (fun h => mvi rfl) ?_
  refine l1g rfl (gwt rfl) (fun h => mvi rfl) ?_
  refine l1g rfl (gwt rfl) (fun h => eql (gvt h) (gvt h)) ?_
  refine l1 (pk_and rfl rfl rfl) ?_
  refine l1 (asgb rfl) ?_
  refine lnil ?_
  refine nthen ?_
  refine cret ?_
  exact fin1 rfl rfl
end Go.Proofs.Ytkdbjhlkahkobaa
