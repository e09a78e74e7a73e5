/- walks, printed by a program of ours -/
import Derived.Test.YtkdbjhlkahkobaaTy
import Derived.Test.YtkdbjhlkahkobaaDef
import Derived.Test.YtkdbjhlkahkobaaWq
namespace Go.Proofs.Ytkdbjhlkahkobaa
open Jal Go.RowKit
set_option maxRecDepth 100000
def fewT (l : Nat → Hd) (n : Nat) : Bool := (List.range (min n 100)).all fun i => !decide (((l i).tn : Int) > 20)
def fewB (l : Nat → Hd) (n : Nat) (k : Int) : Bool := fewT l n && decide ((n : Int) ≤ k)
theorem fewT_no {l : Nat → Hd} {n i : Nat} (hi : i < n) (h1 : i < 100) (h : ((l i).tn : Int) > 20) : fewT l n = false := by
  cases hf : fewT l n with
  | false => rfl
  | true =>
    unfold fewT at hf
    have := List.all_eq_true.1 hf i (List.mem_range.2 (by omega))
    simp at this; omega
theorem fewT_yes {l : Nat → Hd} {n : Nat} (h : ∀ i, i < n → i < 100 → ¬ ((l i).tn : Int) > 20) : fewT l n = true := by
  unfold fewT
  refine List.all_eq_true.2 fun i hi => ?_
  have := List.mem_range.1 hi
  have h1 := h i (by omega) (by omega)
  simp; omega

theorem few_calls (w : World) (p : Option Addr) (n c : Nat) (l : Nat → Hd) (k : Int) (hn : (n : Int) ≤ 9223372036854775807) (hl : Sl w p n 125 (fun i => encH (l i))) : Calls Try.prog 44 #[.slice p n c, .int .i64 k] w (Ret (.bool (fewB l n k)) w) := by
  refine fn_calls (n := 27) Try.func44 rfl rfl (lb rfl) ?_
  refine cseq ?_
  refine creg ?_
  refine l1 (asgb rfl) ?_
  refine lnil ?_
  refine nthen ?_
  refine cseq ?_
  refine cseq ?_
  refine creg ?_
  refine l1 (asgi rfl) ?_
  refine lnil ?_
  refine nthen ?_
  refine cblock ?_
  refine cloopI (σ := Nat) (fun s => [(0, .slice p n c), (1, .int .i64 k), (5, .int .i64 (s : Int))]) (fun s => []) (fun s => s ≤ n ∧ s ≤ 100 ∧ ∀ j, j < s → ¬ ((l j).tn : Int) > 20) (fun s => n + 1 - s) 0 ⟨Nat.zero_le _, by omega, fun j hj => by omega⟩ ⟨rfl, rfl, rfl, trivial⟩ (List.Sublist.refl _) ?_
  rintro i j hI
  show WC _ _ _ ([]) _ _ (over j [(0, .slice p n c), (1, .int .i64 k), (5, .int .i64 (i : Int))])
  replace hI : i ≤ n ∧ i ≤ 100 ∧ ∀ j, j < i → ¬ ((l j).tn : Int) > 20 := hI
  refine cseq ?_
  refine cseq ?_
  refine creg ?_
  refine l1 (mvi rfl) ?_
  refine l1 (mvs rfl) ?_
  refine l1 (lens sl54 rfl rfl) ?_
  refine l1 (lss rfl rfl) ?_
  refine l1 (mvb rfl) ?_
  refine l1g rfl (gwt rfl) (fun h => mvi rfl) ?_
  refine l1g rfl (gwt rfl) (fun h => lss (gvt h) rfl) ?_
  refine l1 (pk_and rfl rfl rfl) ?_
  refine lnil ?_
  refine nthen ?_
  refine cif rfl (fun h1 => ?_) (fun h1 => ?_)
  · have hlt : i < n ∧ i < 100 := by (simp at h1; omega)
    obtain ⟨b, o, hp, hbl, hm⟩ := hl.at hlt.1
    refine cskip ?_
    refine nthen ?_
    refine cseq ?_
    refine cblock ?_
    refine cseq ?_
    refine creg ?_
    refine l1 (mvs rfl) ?_
    refine l1 (mvi rfl) ?_
    refine l1 (isp sl54 hp rfl rfl (by omega) (by omega)) ?_
    refine l1 (fa fa37_7 rfl) ?_
    refine l1 (ldm (v := .slice (l i).tp (l i).tn (l i).tc) Try.isAgg35 rfl (fun w' hw => ((hm i hlt.1).kept hw.below hbl).at (encH_tokens _))) ?_
    refine l1 (lens sl35 rfl rfl) ?_
    refine l1 (gtr rfl rfl) ?_
    refine lnil ?_
    refine nthen ?_
    refine cif rfl (fun h2 => ?_) (fun h2 => ?_)
    · skip
      refine cseq ?_
      refine creg ?_
      refine l1 (asgb rfl) ?_
      refine lnil ?_
      refine nthen ?_
      refine cret ?_
      refine nblkR ?_
      refine nthenR ?_
      refine nIR ?_
      refine nblkR ?_
      refine nthenR ?_
      exact fin1b rfl rfl (by rw [fewB, fewT_no (by omega) (by omega) (dt h2)]; rfl)
    · skip
      refine cskip ?_
      refine nblkN ?_
      refine nthen ?_
      refine creg ?_
      refine l1 (mvi rfl) ?_
      first | refine l1 (addn rfl rfl (ri (by omega) (by omega))) ?_ | refine l1 (add rfl rfl) ?_
      refine l1 (asgi rfl) ?_
      refine lnil ?_
      exact nI (i + 1) ⟨by omega, by omega, fun j hj => (Nat.lt_succ_iff_lt_or_eq.1 hj).elim (fun h => hI.2.2 j h) (fun h => by subst h; exact df h2)⟩ (by show n + 1 - (i + 1) < n + 1 - i; omega) ⟨rfl, rfl, rfl, trivial⟩ (List.Sublist.refl _)
  · have hge : ¬ (i < n ∧ i < 100) := by (intro hc; simp at h1; omega)
    refine cexit ?_
    refine nthenE ?_
    refine nIE ?_
    refine nblkE ?_
    refine nthen ?_
    refine cseq ?_
    refine creg ?_
    refine l1 (mvs rfl) ?_
    refine l1 (lens sl54 rfl rfl) ?_
    refine l1 (mvi rfl) ?_
    refine l1 (leq rfl rfl) ?_
    refine l1 (asgb rfl) ?_
    refine lnil ?_
    refine nthen ?_
    refine cret ?_
    exact fin1b rfl rfl (by rw [fewB, fewT_yes (fun j hj h100 => hI.2.2 j (by omega))]; rfl)

theorem neqlArr {t e : TypeId} {n : Nat} {k : IntKind} {x y : Operand} (hu : Try.prog.underlying t = some (.array n e)) (he : Try.prog.underlying e = some (.int k)) (hs : Try.prog.cellsOf e = 1) (hg : Try.prog.eqGuardType Try.prog.depth t = false) (a b : Nat → Int) (w : World) :
    (do eqGuard .neq t x y (.agg (arr k n a).toArray) (.agg (arr k n b).toArray); binOp .neq t (.agg (arr k n a).toArray) (.agg (arr k n b).toArray)).run Try.prog w = .ok (.bool (!eqA n a b)) w := by
  have he : (Op.equal t (.agg (arr k n a).toArray) (.agg (arr k n b).toArray)).run Try.prog w = .ok (eqA n a b) w := arr_eq 9998 hu he hs a b w
  simp [eqGuard, binOp, Sem.run_bind, run_program, hg, he]
theorem neql34 {x y : Operand} (a b : Nat → Int) (w : World) : (do eqGuard .neq 34 x y (.agg (arr .u8 16 a).toArray) (.agg (arr .u8 16 b).toArray); binOp .neq 34 (.agg (arr .u8 16 a).toArray) (.agg (arr .u8 16 b).toArray)).run Try.prog w = .ok (.bool (!eqA 16 a b)) w := neqlArr Try.underlying34 Try.underlying5 (by kernel_rfl) (by kernel_rfl) a b w
theorem eql23 {x y : Operand} (a b : Nat → Int) (w : World) : (do eqGuard .eql 23 x y (.agg (arr .u64 6 a).toArray) (.agg (arr .u64 6 b).toArray); binOp .eql 23 (.agg (arr .u64 6 a).toArray) (.agg (arr .u64 6 b).toArray)).run Try.prog w = .ok (.bool (eqA 6 a b)) w := eqlArr Try.underlying23 Try.underlying22 (by kernel_rfl) (by kernel_rfl) a b w
def eqTok (n : Nat) (t : Nat → Nat → Int) (m : Nat) (u : Nat → Nat → Int) : Bool := bif decide ((n : Int) ≠ (m : Int)) then false else (List.range n).all fun i => eqA 16 (t i) (u i)
theorem eqTok_ne {n m : Nat} {t u : Nat → Nat → Int} (h : decide ((n : Int) ≠ (m : Int)) = true) : eqTok n t m u = false := by unfold eqTok; rw [h]; rfl
theorem eqTok_no {n m i : Nat} {t u : Nat → Nat → Int} (h : decide ((n : Int) ≠ (m : Int)) = false) (hi : i < n) (hne : eqA 16 (t i) (u i) = false) : eqTok n t m u = false := by
  unfold eqTok; rw [h]
  cases hf : (List.range n).all fun i => eqA 16 (t i) (u i) with
  | false => rfl
  | true => have := List.all_eq_true.1 hf i (List.mem_range.2 hi); rw [hne] at this; cases this
theorem eqTok_yes {n m : Nat} {t u : Nat → Nat → Int} (h : decide ((n : Int) ≠ (m : Int)) = false) (hall : ∀ i, i < n → eqA 16 (t i) (u i) = true) : eqTok n t m u = true := by
  unfold eqTok; rw [h]
  exact List.all_eq_true.2 fun i hi => hall i (List.mem_range.1 hi)
theorem eqA_refl (n : Nat) (a : Nat → Int) : eqA n a a = true := eqA_iff.2 fun _ _ => rfl
def sameH (a b : Hd) : Bool := bif !eqTok a.tn a.tok b.tn b.tok then false else (((((((((decide (a.writer = b.writer) && decide (a.seq = b.seq)) && eqA 32 a.prev b.prev) && decide (a.epoch = b.epoch)) && (a.control == b.control)) && decide (a.time = b.time)) && eqA 16 a.item b.item) && eqA 6 a.knows b.knows) && eqA 32 a.sum b.sum) && decide (a.size = b.size)) && eqA 32 a.code b.code
theorem same_core {a b : Hd} (h : core a = core b) : sameH a b = true := by
  have e : sameH a b = sameH (core a) (core b) := rfl
  rw [e, h]
  have ht : eqTok (core b).tn (core b).tok (core b).tn (core b).tok = true := eqTok_yes (by simp) (fun i _ => eqA_refl _ _)
  unfold sameH
  rw [ht]
  simp [eqA_refl]

theorem toksEq_calls (w : World) (p : Option Addr) (n c : Nat) (t : Nat → Nat → Int) (q : Option Addr) (m d : Nat) (u : Nat → Nat → Int) (hn : (n : Int) ≤ 9223372036854775807) (hl : Sl w p n 16 (fun i => arr .u8 16 (t i))) (hk : Sl w q m 16 (fun i => arr .u8 16 (u i))) : Calls Try.prog 83 #[.slice p n c, .slice q m d] w (Ret (.bool (eqTok n t m u)) w) := by
  refine fn_calls (n := 26) Try.func83 rfl rfl (lb rfl) ?_
  refine cseq ?_
  refine creg ?_
  refine l1 (asgb rfl) ?_
  refine lnil ?_
  refine nthen ?_
  refine cseq ?_
  refine cseq ?_
  refine creg ?_
  refine l1 (mvs rfl) ?_
  refine l1 (lens sl35 rfl rfl) ?_
  refine l1 (mvs rfl) ?_
  refine l1 (lens sl35 rfl rfl) ?_
  refine l1 (neq rfl rfl) ?_
  refine lnil ?_
  refine nthen ?_
  refine cif rfl (fun h1 => ?_) (fun h1 => ?_)
  · skip
    refine cseq ?_
    refine creg ?_
    refine l1 (asgb rfl) ?_
    refine lnil ?_
    refine nthen ?_
    refine cret ?_
    refine nthenR ?_
    exact fin1b rfl rfl ((eqTok_ne h1).symm)
  · have hnm : n = m := by (have := df2 h1; omega)
    refine cskip ?_
    refine nthen ?_
    refine cseq ?_
    refine cseq ?_
    refine creg ?_
    refine l1 (mvs rfl) ?_
    refine l1 (lens sl35 rfl rfl) ?_
    refine l1 (mvi rfl) ?_
    refine lnil ?_
    refine nthen ?_
    refine cblock ?_
    refine cloopI (σ := Nat) (fun s => [(0, .slice p n c), (1, .slice q m d), (12, .int .i64 (n : Int)), (13, .int .i64 (s : Int))]) (fun s => []) (fun s => s ≤ n ∧ ∀ j, j < s → eqA 16 (t j) (u j) = true) (fun s => n - s) 0 ⟨Nat.zero_le _, fun j hj => by omega⟩ ⟨rfl, rfl, rfl, rfl, trivial⟩ (List.Sublist.refl _) ?_
    rintro i j hI
    show WC _ _ _ ([]) _ _ (over j [(0, .slice p n c), (1, .slice q m d), (12, .int .i64 (n : Int)), (13, .int .i64 (i : Int))])
    replace hI : i ≤ n ∧ ∀ j, j < i → eqA 16 (t j) (u j) = true := hI
    refine cseq ?_
    refine creg ?_
    refine l1 (lss rfl rfl) ?_
    refine lnil ?_
    refine nthen ?_
    refine cseq ?_
    refine cif rfl (fun h2 => ?_) (fun h2 => ?_)
    · have hlt : i < n := by (have := dt h2; omega)
      obtain ⟨b, o, hp, hbl, hm⟩ := hl.at hlt
      obtain ⟨b2, o2, hq, hbl2, hm2⟩ := hk.at (i := i) (by omega)
      refine cskip ?_
      refine nthen ?_
      refine cseq ?_
      refine cblock ?_
      refine cseq ?_
      refine creg ?_
      refine l1 (mvi rfl) ?_
      refine l1 (asgi rfl) ?_
      refine lnil ?_
      refine nthen ?_
      refine cseq ?_
      refine cregq mo (by kernel_rfl) ?_
      refine q1 (mvs rfl) ?_
      refine q1 (mvi rfl) ?_
      refine q1 (isp sl35 hp rfl rfl (by omega) (by omega)) ?_
      refine q1 (ldam (vs := arr .u8 16 (t i)) Try.isAgg34 Try.sizeOf34 rfl rfl (fun w' hw => (hm i (by omega)).kept hw.below hbl)) ?_
      refine q1 (mvs rfl) ?_
      refine q1 (mvi rfl) ?_
      refine q1 (isp sl35 hq rfl rfl (by omega) (by omega)) ?_
      refine q1 (ldam (vs := arr .u8 16 (u i)) Try.isAgg34 Try.sizeOf34 rfl rfl (fun w' hw => (hm2 i (by omega)).kept hw.below hbl2)) ?_
      refine q1 (neqa rfl rfl (fun w => neql34 _ _ w)) ?_
      refine qnil ?_
      refine nthen ?_
      refine cif rfl (fun h3 => ?_) (fun h3 => ?_)
      · skip
        refine cseq ?_
        refine creg ?_
        refine l1 (asgb rfl) ?_
        refine lnil ?_
        refine nthen ?_
        refine cret ?_
        refine nblkR ?_
        refine nthenR ?_
        refine nIR ?_
        refine nblkR ?_
        refine nthenR ?_
        exact fin1b rfl rfl ((eqTok_no h1 hlt (by simpa using h3)).symm)
      · skip
        refine cskip ?_
        refine nblkN ?_
        refine nthen ?_
        refine creg ?_
        first | refine l1 (addn rfl rfl (ri (by omega) (by omega))) ?_ | refine l1 (add rfl rfl) ?_
        refine l1 (mvi rfl) ?_
        refine lnil ?_
        exact nI (i + 1) ⟨by omega, fun j hj => (Nat.lt_succ_iff_lt_or_eq.1 hj).elim (fun h => hI.2 j h) (fun h => by subst h; simpa using h3)⟩ (by show n - (i + 1) < n - i; omega) ⟨rfl, rfl, rfl, rfl, trivial⟩ (List.Sublist.refl _)
    · have hge : n ≤ i := by (have := df h2; omega)
      refine cexit ?_
      refine nthenE ?_
      refine nIE ?_
      refine nblkE ?_
      refine nthen ?_
      refine cseq ?_
      refine creg ?_
      refine l1 (asgb rfl) ?_
      refine lnil ?_
      refine nthen ?_
      refine cret ?_
      exact fin1b rfl rfl ((eqTok_yes h1 (fun j hj => hI.2 j (by omega))).symm)

set_option maxHeartbeats 1000000 in
theorem sameH_calls (a b : Hd) (w : World) (ha : HdIn w a) (hb : HdIn w b) (ka : HdOk a) : Calls Try.prog 47 #[.agg (encH a).toArray, .agg (encH b).toArray] w (Ret (.bool (sameH a b)) w) := by
  refine fn_calls (n := 86) Try.func47 rfl rfl (lb rfl) ?_
  refine cseq ?_
  refine creg ?_
  refine lbxa rfl (fun b1 => ?_)
  refine lbxa rfl (fun b2 => ?_)
  refine l1 (asgb rfl) ?_
  refine lnil ?_
  refine nthen ?_
  refine cseq ?_
  refine cseq ?_
  refine creg ?_
  refine l1 (fa fa37_7 rfl) ?_
  refine l1 (ldc 0 Try.isAgg35 rfl rfl rfl) ?_
  refine l1 (fa fa37_7 rfl) ?_
  refine l1 (ldc 1 Try.isAgg35 rfl rfl rfl) ?_
  refine l1 (cl hb83 rfl (mc rfl (mc rfl mn)) (fun w hw => toksEq_calls _ _ _ _ _ _ _ _ _ ka.n (Sl.keptS ha hw) (Sl.keptS hb hw))) ?_
  refine l1 (nt rfl) ?_
  refine lnil ?_
  refine nthen ?_
  refine cif rfl (fun h1 => ?_) (fun h1 => ?_)
  · skip
    refine cseq ?_
    refine creg ?_
    refine l1 (asgb rfl) ?_
    refine lnil ?_
    refine nthen ?_
    refine cret ?_
    refine nthenR ?_
    exact fin1b rfl rfl (by simp only [sameH, h1, cond_true, cond_false]; try rfl)
  · skip
    refine cskip ?_
    refine nthen ?_
    refine cseq ?_
    refine creg ?_
    refine l1 (fa fa37_0 rfl) ?_
    refine l1 (ldc 0 Try.isAgg3 rfl rfl rfl) ?_
    refine l1 (fa fa37_0 rfl) ?_
    refine l1 (ldc 1 Try.isAgg3 rfl rfl rfl) ?_
    refine l1 (eql rfl rfl) ?_
    refine l1 (mvb rfl) ?_
    refine l1g rfl (gwt rfl) (fun h => fa fa37_1 rfl) ?_
    refine l1g rfl (gwt rfl) (fun h => ldc 0 Try.isAgg22 rfl (gvt h) rfl) ?_
    refine l1g rfl (gwt rfl) (fun h => fa fa37_1 rfl) ?_
    refine l1g rfl (gwt rfl) (fun h => ldc 1 Try.isAgg22 rfl (gvt h) rfl) ?_
    refine l1g rfl (gwt rfl) (fun h => eql (gvt h) (gvt h)) ?_
    refine l1 (pk_and rfl rfl rfl) ?_
    refine l1 (mvb rfl) ?_
    refine l1g rfl (gwt rfl) (fun h => fa fa37_2 rfl) ?_
    refine l1g rfl (gwt rfl) (fun h => lda 0 Try.isAgg32 Try.sizeOf32 rfl (gvt h) (encH_prev _) rfl) ?_
    refine l1g rfl (gwt rfl) (fun h => fa fa37_2 rfl) ?_
    refine l1g rfl (gwt rfl) (fun h => lda 1 Try.isAgg32 Try.sizeOf32 rfl (gvt h) (encH_prev _) rfl) ?_
    refine l1g rfl (gwt rfl) (fun h => eqla (gvt h) (gvt h) (fun w => eql32 _ _ w)) ?_
    refine l1 (pk_and rfl rfl rfl) ?_
    refine l1 (mvb rfl) ?_
    refine l1g rfl (gwt rfl) (fun h => fa fa37_3 rfl) ?_
    refine l1g rfl (gwt rfl) (fun h => ldc 0 Try.isAgg3 rfl (gvt h) rfl) ?_
    refine l1g rfl (gwt rfl) (fun h => fa fa37_3 rfl) ?_
    refine l1g rfl (gwt rfl) (fun h => ldc 1 Try.isAgg3 rfl (gvt h) rfl) ?_
    refine l1g rfl (gwt rfl) (fun h => eql (gvt h) (gvt h)) ?_
    refine l1 (pk_and rfl rfl rfl) ?_
    refine l1 (mvb rfl) ?_
    refine l1g rfl (gwt rfl) (fun h => fa fa37_4 rfl) ?_
    refine l1g rfl (gwt rfl) (fun h => ldc 0 Try.isAgg4 rfl (gvt h) rfl) ?_
    refine l1g rfl (gwt rfl) (fun h => fa fa37_4 rfl) ?_
    refine l1g rfl (gwt rfl) (fun h => ldc 1 Try.isAgg4 rfl (gvt h) rfl) ?_
    refine l1g rfl (gwt rfl) (fun h => eqlb Try.underlying4 (gvt h) (gvt h)) ?_
    refine l1 (pk_and rfl rfl rfl) ?_
    refine l1 (mvb rfl) ?_
    refine l1g rfl (gwt rfl) (fun h => fa fa37_5 rfl) ?_
    refine l1g rfl (gwt rfl) (fun h => ldc 0 Try.isAgg22 rfl (gvt h) rfl) ?_
    refine l1g rfl (gwt rfl) (fun h => fa fa37_5 rfl) ?_
    refine l1g rfl (gwt rfl) (fun h => ldc 1 Try.isAgg22 rfl (gvt h) rfl) ?_
    refine l1g rfl (gwt rfl) (fun h => eql (gvt h) (gvt h)) ?_
    refine l1 (pk_and rfl rfl rfl) ?_
    refine l1 (mvb rfl) ?_
    refine l1g rfl (gwt rfl) (fun h => fa fa37_6 rfl) ?_
    refine l1g rfl (gwt rfl) (fun h => lda 0 Try.isAgg34 Try.sizeOf34 rfl (gvt h) (encH_item _) rfl) ?_
    refine l1g rfl (gwt rfl) (fun h => fa fa37_6 rfl) ?_
    refine l1g rfl (gwt rfl) (fun h => lda 1 Try.isAgg34 Try.sizeOf34 rfl (gvt h) (encH_item _) rfl) ?_
    refine l1g rfl (gwt rfl) (fun h => eqla (gvt h) (gvt h) (fun w => eql34 _ _ w)) ?_
    refine l1 (pk_and rfl rfl rfl) ?_
    refine l1 (mvb rfl) ?_
    refine l1g rfl (gwt rfl) (fun h => fa fa37_8 rfl) ?_
    refine l1g rfl (gwt rfl) (fun h => lda 0 Try.isAgg23 Try.sizeOf23 rfl (gvt h) (encH_knows _) rfl) ?_
    refine l1g rfl (gwt rfl) (fun h => fa fa37_8 rfl) ?_
    refine l1g rfl (gwt rfl) (fun h => lda 1 Try.isAgg23 Try.sizeOf23 rfl (gvt h) (encH_knows _) rfl) ?_
    refine l1g rfl (gwt rfl) (fun h => eqla (gvt h) (gvt h) (fun w => eql23 _ _ w)) ?_
    refine l1 (pk_and rfl rfl rfl) ?_
    refine l1 (mvb rfl) ?_
    refine l1g rfl (gwt rfl) (fun h => fa fa37_9 rfl) ?_
    refine l1g rfl (gwt rfl) (fun h => lda 0 Try.isAgg32 Try.sizeOf32 rfl (gvt h) (encH_sum _) rfl) ?_
    refine l1g rfl (gwt rfl) (fun h => fa fa37_9 rfl) ?_
    refine l1g rfl (gwt rfl) (fun h => lda 1 Try.isAgg32 Try.sizeOf32 rfl (gvt h) (encH_sum _) rfl) ?_
    refine l1g rfl (gwt rfl) (fun h => eqla (gvt h) (gvt h) (fun w => eql32 _ _ w)) ?_
    refine l1 (pk_and rfl rfl rfl) ?_
    refine l1 (mvb rfl) ?_
    refine l1g rfl (gwt rfl) (fun h => fa fa37_10 rfl) ?_
    refine l1g rfl (gwt rfl) (fun h => ldc 0 Try.isAgg3 rfl (gvt h) rfl) ?_
    refine l1g rfl (gwt rfl) (fun h => fa fa37_10 rfl) ?_
    refine l1g rfl (gwt rfl) (fun h => ldc 1 Try.isAgg3 rfl (gvt h) rfl) ?_
    refine l1g rfl (gwt rfl) (fun h => eql (gvt h) (gvt h)) ?_
    refine l1 (pk_and rfl rfl rfl) ?_
    refine l1 (mvb rfl) ?_
    refine l1g rfl (gwt rfl) (fun h => fa fa37_11 rfl) ?_
    refine l1g rfl (gwt rfl) (fun h => lda 0 Try.isAgg32 Try.sizeOf32 rfl (gvt h) (encH_code _) rfl) ?_
    refine l1g rfl (gwt rfl) (fun h => fa fa37_11 rfl) ?_
    refine l1g rfl (gwt rfl) (fun h => lda 1 Try.isAgg32 Try.sizeOf32 rfl (gvt h) (encH_code _) rfl) ?_
    refine l1g rfl (gwt rfl) (fun h => eqla (gvt h) (gvt h) (fun w => eql32 _ _ w)) ?_
    refine l1 (pk_and rfl rfl rfl) ?_
    refine l1 (asgb rfl) ?_
    refine lnil ?_
    refine nthen ?_
    refine cret ?_
    exact fin1b rfl rfl (by simp only [sameH, h1, cond_true, cond_false]; try rfl)
end Go.Proofs.Ytkdbjhlkahkobaa
