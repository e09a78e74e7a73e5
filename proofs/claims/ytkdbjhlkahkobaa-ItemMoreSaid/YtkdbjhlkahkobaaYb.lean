/- walks, printed by a program of ours -/
import Derived.Test.YtkdbjhlkahkobaaTy
import Derived.Test.YtkdbjhlkahkobaaDef
import Derived.Test.YtkdbjhlkahkobaaYa
import Derived.Test.YtkdbjhlkahkobaaRw2
namespace Go.Proofs.Ytkdbjhlkahkobaa
open Jal Go.RowKit
set_option maxRecDepth 100000
theorem clrp_calls (w : World) (p : Option Addr) (n c : Nat) (l : Nat → Rw) (hn : n ≤ 100) (hl : Sl w p n 130 (fun i => encR (l i))) (hpos : 0 < n) : Calls Try.prog 133 #[.slice p n c] w (RetM (fun v Hn => OwnL 79 130 v n ((List.range n).flatMap (fun i => encR (l i))) Hn) w) := by
  refine fn_calls (n := 8) Try.func133 rfl rfl (lb rfl) ?_
  obtain ⟨b, o, rfl, hbl, hm⟩ := hl.at hpos
  refine cseq ?_
  refine creg ?_
  refine l1 (asgs rfl) ?_
  refine lnil ?_
  refine nthen ?_
  refine cseq ?_
  refine cseq ?_
  refine creg ?_
  refine l1 (mvs rfl) ?_
  refine l1 (eqnil sl74 rfl rfl) ?_
  refine lnil ?_
  refine nthen ?_
  refine ciff rfl ?_
  refine cskip ?_
  refine nthen ?_
  refine cseq ?_
  refine creg ?_
  refine lbs Try.underlying74 rfl (bs74z) (fun b1 => ?_)
  refine l1 (mvs rfl) ?_
  refine lapp [] [] [⟨b1, [], 79⟩] (xs := []) el74 rfl rfl ⟨rfl, .inr ⟨b1, 0, [], rfl, rfl, Nat.le_refl _, by decide, rfl, rfl⟩⟩ rfl (news := (List.range n).flatMap (fun i => encR (l i))) (by rw [flatM_len (sz := 130) (fun a => rfl), List.length_range]) (fun w' hw => (mem_flat (by decide) (fun i => rfl) (fun i hi => (hm i hi).kept hw.below hbl))) (fun u hu => by obtain ⟨i, _, hi⟩ := List.mem_flatMap.1 hu; exact encR_one (l i) u hi) hpos (by unfold maxLen; omega) (by omega) ?_
  intro g cap oe hown0
  have hown : OwnL 79 130 (.slice (some ⟨g, 0, none⟩) n cap) n ((List.range n).flatMap (fun i => encR (l i))) oe := by simpa using hown0
  refine l1 (asgs rfl) ?_
  refine lnil ?_
  refine nthen ?_
  refine cret ?_
  exact finM (.slice (some ⟨g, 0, none⟩) (0 + n) cap) oe (rv1 rfl (rvt rfl)) ⟨oe, List.Perm.refl _, by simp⟩ (by rw [Nat.zero_add]; exact hown)

theorem clrn_calls (w : World) (c : Nat) (l : Nat → Rw) : Calls Try.prog 133 #[.slice none 0 c] w (RetM (fun v Hn => OwnL 79 130 v 0 ((List.range 0).flatMap (fun i => encR (l i))) Hn) w) := by
  refine fn_calls (n := 8) Try.func133 rfl rfl (lb rfl) ?_
  refine cseq ?_
  refine creg ?_
  refine l1 (asgs rfl) ?_
  refine lnil ?_
  refine nthen ?_
  refine cseq ?_
  refine cseq ?_
  refine creg ?_
  refine l1 (mvs rfl) ?_
  refine l1 (eqnil sl74 rfl rfl) ?_
  refine lnil ?_
  refine nthen ?_
  refine cift rfl ?_
  refine cseq ?_
  refine creg ?_
  refine l1 (asgs rfl) ?_
  refine lnil ?_
  refine nthen ?_
  refine cret ?_
  refine nthenR ?_
  exact finM _ [] (rv1 rfl (rvt rfl)) ⟨[], List.Perm.refl _, List.nil_sublist _⟩ (OwnL.nil 79 130)

theorem clr0_calls (w : World) (a : Addr) (c : Nat) (l : Nat → Rw) : Calls Try.prog 133 #[.slice (some a) 0 c] w (RetM (fun v Hn => OwnL 79 130 v 0 ((List.range 0).flatMap (fun i => encR (l i))) Hn) w) := by
  refine fn_calls (n := 8) Try.func133 rfl rfl (lb rfl) ?_
  refine cseq ?_
  refine creg ?_
  refine l1 (asgs rfl) ?_
  refine lnil ?_
  refine nthen ?_
  refine cseq ?_
  refine cseq ?_
  refine creg ?_
  refine l1 (mvs rfl) ?_
  refine l1 (eqnil sl74 rfl rfl) ?_
  refine lnil ?_
  refine nthen ?_
  refine ciff rfl ?_
  refine cskip ?_
  refine nthen ?_
  refine cseq ?_
  refine creg ?_
  refine lbs Try.underlying74 rfl (bs74z) (fun b1 => ?_)
  refine l1 (mvs rfl) ?_
  refine l1 (lapp0 el74 rfl (Nat.le_refl _) rfl) ?_
  refine l1 (asgs rfl) ?_
  refine lnil ?_
  refine nthen ?_
  refine cret ?_
  exact finM _ [⟨b1, [], 79⟩] (rv1 rfl (rvt rfl)) ⟨_, List.Perm.refl _, List.Sublist.refl _⟩ ⟨rfl, .inr ⟨b1, 0, [], rfl, rfl, Nat.le_refl _, by decide, rfl, rfl⟩⟩

theorem clr_calls (w : World) (p : Option Addr) (n c : Nat) (l : Nat → Rw) (hn : n ≤ 100) (hl : Sl w p n 130 (fun i => encR (l i))) : Calls Try.prog 133 #[.slice p n c] w (RetM (fun v Hn => OwnL 79 130 v n ((List.range n).flatMap (fun i => encR (l i))) Hn) w) := by
  rcases Nat.eq_zero_or_pos n with h | h
  · subst h
    cases p with
    | none => exact clrn_calls w c l
    | some a => exact clr0_calls w a c l
  · exact clrp_calls w p n c l hn hl h

theorem clsp_calls (w : World) (p : Option Addr) (n c : Nat) (l : Nat → ByteArray) (hn : n ≤ 100) (hl : Sl w p n 1 (fun i => encT (l i))) (hpos : 0 < n) : Calls Try.prog 118 #[.slice p n c] w (RetM (fun v Hn => OwnL 9 1 v n ((List.range n).flatMap (fun i => encT (l i))) Hn) w) := by
  refine fn_calls (n := 8) Try.func118 rfl rfl (lb rfl) ?_
  obtain ⟨b, o, rfl, hbl, hm⟩ := hl.at hpos
  refine cseq ?_
  refine creg ?_
  refine l1 (asgs rfl) ?_
  refine lnil ?_
  refine nthen ?_
  refine cseq ?_
  refine cseq ?_
  refine creg ?_
  refine l1 (mvs rfl) ?_
  refine l1 (eqnil sl75 rfl rfl) ?_
  refine lnil ?_
  refine nthen ?_
  refine ciff rfl ?_
  refine cskip ?_
  refine nthen ?_
  refine cseq ?_
  refine creg ?_
  refine lbs Try.underlying75 rfl (bs75z) (fun b1 => ?_)
  refine l1 (mvs rfl) ?_
  refine lapp [] [] [⟨b1, [], 9⟩] (xs := []) el75 rfl rfl ⟨rfl, .inr ⟨b1, 0, [], rfl, rfl, Nat.le_refl _, by decide, rfl, rfl⟩⟩ rfl (news := (List.range n).flatMap (fun i => encT (l i))) (by rw [flatM_len (sz := 1) (fun a => rfl), List.length_range]) (fun w' hw => (mem_flat (by decide) (fun i => rfl) (fun i hi => (hm i hi).kept hw.below hbl))) (fun u hu => by obtain ⟨i, _, hi⟩ := List.mem_flatMap.1 hu; exact (oneA (vs := encT (l i)) rfl) u hi) hpos (by unfold maxLen; omega) (by omega) ?_
  intro g cap oe hown0
  have hown : OwnL 9 1 (.slice (some ⟨g, 0, none⟩) n cap) n ((List.range n).flatMap (fun i => encT (l i))) oe := by simpa using hown0
  refine l1 (asgs rfl) ?_
  refine lnil ?_
  refine nthen ?_
  refine cret ?_
  exact finM (.slice (some ⟨g, 0, none⟩) (0 + n) cap) oe (rv1 rfl (rvt rfl)) ⟨oe, List.Perm.refl _, by simp⟩ (by rw [Nat.zero_add]; exact hown)

theorem clsn_calls (w : World) (c : Nat) (l : Nat → ByteArray) : Calls Try.prog 118 #[.slice none 0 c] w (RetM (fun v Hn => OwnL 9 1 v 0 ((List.range 0).flatMap (fun i => encT (l i))) Hn) w) := by
  refine fn_calls (n := 8) Try.func118 rfl rfl (lb rfl) ?_
  refine cseq ?_
  refine creg ?_
  refine l1 (asgs rfl) ?_
  refine lnil ?_
  refine nthen ?_
  refine cseq ?_
  refine cseq ?_
  refine creg ?_
  refine l1 (mvs rfl) ?_
  refine l1 (eqnil sl75 rfl rfl) ?_
  refine lnil ?_
  refine nthen ?_
  refine cift rfl ?_
  refine cseq ?_
  refine creg ?_
  refine l1 (asgs rfl) ?_
  refine lnil ?_
  refine nthen ?_
  refine cret ?_
  refine nthenR ?_
  exact finM _ [] (rv1 rfl (rvt rfl)) ⟨[], List.Perm.refl _, List.nil_sublist _⟩ (OwnL.nil 9 1)

theorem cls0_calls (w : World) (a : Addr) (c : Nat) (l : Nat → ByteArray) : Calls Try.prog 118 #[.slice (some a) 0 c] w (RetM (fun v Hn => OwnL 9 1 v 0 ((List.range 0).flatMap (fun i => encT (l i))) Hn) w) := by
  refine fn_calls (n := 8) Try.func118 rfl rfl (lb rfl) ?_
  refine cseq ?_
  refine creg ?_
  refine l1 (asgs rfl) ?_
  refine lnil ?_
  refine nthen ?_
  refine cseq ?_
  refine cseq ?_
  refine creg ?_
  refine l1 (mvs rfl) ?_
  refine l1 (eqnil sl75 rfl rfl) ?_
  refine lnil ?_
  refine nthen ?_
  refine ciff rfl ?_
  refine cskip ?_
  refine nthen ?_
  refine cseq ?_
  refine creg ?_
  refine lbs Try.underlying75 rfl (bs75z) (fun b1 => ?_)
  refine l1 (mvs rfl) ?_
  refine l1 (lapp0 el75 rfl (Nat.le_refl _) rfl) ?_
  refine l1 (asgs rfl) ?_
  refine lnil ?_
  refine nthen ?_
  refine cret ?_
  exact finM _ [⟨b1, [], 9⟩] (rv1 rfl (rvt rfl)) ⟨_, List.Perm.refl _, List.Sublist.refl _⟩ ⟨rfl, .inr ⟨b1, 0, [], rfl, rfl, Nat.le_refl _, by decide, rfl, rfl⟩⟩

theorem cls_calls (w : World) (p : Option Addr) (n c : Nat) (l : Nat → ByteArray) (hn : n ≤ 100) (hl : Sl w p n 1 (fun i => encT (l i))) : Calls Try.prog 118 #[.slice p n c] w (RetM (fun v Hn => OwnL 9 1 v n ((List.range n).flatMap (fun i => encT (l i))) Hn) w) := by
  rcases Nat.eq_zero_or_pos n with h | h
  · subst h
    cases p with
    | none => exact clsn_calls w c l
    | some a => exact cls0_calls w a c l
  · exact clsp_calls w p n c l hn hl h

theorem any_calls (x : Rw) (w : World) : Calls Try.prog 115 #[.agg (encR x).toArray] w (Ret (.bool (anyR x)) w) := by
  refine fn_calls (n := 3) Try.func115 rfl rfl (lb rfl) ?_
  refine cseq ?_
  refine creg ?_
  refine lbxa rfl (fun b1 => ?_)
  refine l1 (asgb rfl) ?_
  refine lnil ?_
  refine nthen ?_
  refine cseq ?_
  refine creg ?_
  refine l1 (asgb rfl) ?_
  refine lnil ?_
  refine nthen ?_
  refine cret ?_
  exact fin1b rfl rfl (by first | rfl | (simp only [anyR, decide_eq_true_eq, cond_true, cond_false]; done) | (simp only [anyR, decide_eq_true_eq, cond_true, cond_false]; rfl))

theorem known_calls (x : Rw) (w : World) : Calls Try.prog 116 #[.agg (encR x).toArray] w (Ret (.bool (knownR x)) w) := by
  refine fn_calls (n := 5) Try.func116 rfl rfl (lb rfl) ?_
  refine cseq ?_
  refine creg ?_
  refine lbxa rfl (fun b1 => ?_)
  refine l1 (asgb rfl) ?_
  refine lnil ?_
  refine nthen ?_
  refine cseq ?_
  refine creg ?_
  refine l1 (fa fa79_1 rfl) ?_
  refine l1 (ldc 0 Try.isAgg4 rfl rfl rfl) ?_
  refine l1 (asgb rfl) ?_
  refine lnil ?_
  refine nthen ?_
  refine cret ?_
  exact fin1b rfl rfl (by first | rfl | (simp only [knownR, decide_eq_true_eq, cond_true, cond_false]; done) | (simp only [knownR, decide_eq_true_eq, cond_true, cond_false]; rfl))

theorem valued_calls (x : Rw) (w : World) : Calls Try.prog 117 #[.agg (encR x).toArray] w (Ret (.bool (valuedR x)) w) := by
  refine fn_calls (n := 11) Try.func117 rfl rfl (lb rfl) ?_
  refine cseq ?_
  refine creg ?_
  refine lbxa rfl (fun b1 => ?_)
  refine l1 (asgb rfl) ?_
  refine lnil ?_
  refine nthen ?_
  refine cseq ?_
  refine creg ?_
  refine l1 (fa fa79_1 rfl) ?_
  refine l1 (ldc 0 Try.isAgg4 rfl rfl rfl) ?_
  refine l1 (mvb rfl) ?_
  refine l1g rfl (gwt rfl) (fun h => fa fa79_2 rfl) ?_
  refine l1g rfl (gwt rfl) (fun h => fa fa77_0 (gvt h)) ?_
  refine l1g rfl (gwt rfl) (fun h => ldc 0 Try.isAgg3 rfl (gvt h) rfl) ?_
  refine l1g rfl (gwt rfl) (fun h => neq (gvt h) rfl) ?_
  refine l1 (pk_and rfl rfl rfl) ?_
  refine l1 (asgb rfl) ?_
  refine lnil ?_
  refine nthen ?_
  refine cret ?_
  exact fin1b rfl rfl (by first | rfl | (simp only [valuedR, decide_eq_true_eq, cond_true, cond_false]; done) | (simp only [valuedR, decide_eq_true_eq, cond_true, cond_false]; rfl))

def PredC (w : World) (f : FuncId) (es : List Value) (q : Rw → Bool) (x : Rw) : Prop := ∀ w' H, Sat w H w' → Calls Try.prog f (.agg (encR x).toArray :: es).toArray w' (Ret (.bool (q x)) w')

theorem nota_calls (x : Rw) (w : World) (k : FuncId) (q : Rw → Bool) (b : Nat) (hk : HasBody Try.prog k) (hq : PredC w k [] q x) (hb : b < w.heap.size) (hm : w.cell? ⟨b, 0, none⟩ = some (.func (.func k) #[] #[])) : Calls Try.prog 134 #[.agg (encR x).toArray, .pointer (some ⟨b, 0, none⟩)] w (Ret (.bool (!q x)) w) := by
  refine fn_calls (n := 8) Try.func134 rfl rfl (lb rfl) ?_
  refine cseq ?_
  refine creg ?_
  refine lbxa rfl (fun b1 => ?_)
  refine l1 (asgb rfl) ?_
  refine lnil ?_
  refine nthen ?_
  refine cseq ?_
  refine creg ?_
  refine l1 (ldm (v := .func (.func k) #[] #[]) Try.isAgg81 rfl (fun w' hw => (hw.below.cell hb).trans hm)) ?_
  refine l1 (ldw 0 Try.isAgg79 Try.sizeOf79 rfl rfl rfl) ?_
  refine l1 (cl hk rfl (mc rfl mn) (fun w' hw => hq w' _ hw)) ?_
  refine l1 (nt rfl) ?_
  refine l1 (asgb rfl) ?_
  refine lnil ?_
  refine nthen ?_
  refine cret ?_
  exact fin1b rfl rfl rfl

def idxR (q : Rw → Bool) (l : Nat → Rw) (n : Nat) : Int := match (List.range n).find? (fun i => q (l i)) with | some i => (i : Int) | none => -1
theorem find_range {p : Nat → Bool} {n i : Nat} (hi : i < n) (h : p i = true) (hb : ∀ j, j < i → p j = false) : (List.range n).find? p = some i := by
  rw [List.find?_range_eq_some]
  exact ⟨h, List.mem_range.2 hi, fun j hj => by simpa using hb j hj⟩
theorem idx_yes {q : Rw → Bool} {l : Nat → Rw} {n i : Nat} (hi : i < n) (h : q (l i) = true) (hb : ∀ j, j < i → q (l j) = false) : idxR q l n = (i : Int) := by
  unfold idxR
  rw [find_range (p := fun i => q (l i)) hi h hb]
theorem idx_no {q : Rw → Bool} {l : Nat → Rw} {n : Nat} (hb : ∀ j, j < n → q (l j) = false) : idxR q l n = -1 := by
  unfold idxR
  rw [List.find?_range_eq_none.2 (fun j hj => by simpa using hb j hj)]
theorem idx_case (q : Rw → Bool) (l : Nat → Rw) (n : Nat) : (idxR q l n = -1 ∧ ∀ j, j < n → q (l j) = false) ∨ ∃ i : Nat, idxR q l n = (i : Int) ∧ i < n ∧ q (l i) = true ∧ ∀ j, j < i → q (l j) = false := by
  cases h : (List.range n).find? (fun i => q (l i)) with
  | none =>
    refine .inl ⟨by unfold idxR; rw [h], fun j hj => ?_⟩
    have := List.find?_range_eq_none.1 h j hj
    simpa using this
  | some i =>
    have h2 := List.find?_range_eq_some.1 h
    exact .inr ⟨i, by unfold idxR; rw [h], List.mem_range.1 h2.2.1, h2.1, fun j hj => by simpa using h2.2.2 j hj⟩

theorem idxf_calls (w : World) (p : Option Addr) (n c : Nat) (l : Nat → Rw) (hn : n ≤ 100) (hl : Sl w p n 130 (fun i => encR (l i))) (f : FuncId) (es : List Value) (q : Rw → Bool) (hf : HasBody Try.prog f) (hq : ∀ i, i < n → PredC w f es q (l i)) : Calls Try.prog 148 #[.slice p n c, .func (.func f) #[] es.toArray] w (Ret (.int .i64 (idxR q l n)) w) := by
  refine fn_calls (n := 19) Try.func148 rfl rfl (lb rfl) ?_
  refine cseq ?_
  refine creg ?_
  refine l1 (asgi rfl) ?_
  refine lnil ?_
  refine nthen ?_
  refine cseq ?_
  refine cseq ?_
  refine creg ?_
  refine l1 (mvs rfl) ?_
  refine l1 (lens sl74 rfl rfl) ?_
  refine l1 (mvi rfl) ?_
  refine lnil ?_
  refine nthen ?_
  refine cblock ?_
  refine cloopI (σ := Nat) (fun s => [(0, .slice p n c), (1, .func (.func f) #[] es.toArray), (7, .int .i64 (n : Int)), (8, .int .i64 (s : Int))]) (fun s => []) (fun s => s ≤ n ∧ ∀ j, j < s → q (l j) = false) (fun s => n - s) 0 ⟨Nat.zero_le _, fun j hj => by omega⟩ ⟨rfl, rfl, rfl, rfl, trivial⟩ (List.Sublist.refl _) ?_
  rintro i j hI
  show WC _ _ _ ([]) _ _ (over j [(0, .slice p n c), (1, .func (.func f) #[] es.toArray), (7, .int .i64 (n : Int)), (8, .int .i64 (i : Int))])
  replace hI : i ≤ n ∧ ∀ j, j < i → q (l j) = false := hI
  refine cseq ?_
  refine creg ?_
  refine l1 (lss rfl rfl) ?_
  refine lnil ?_
  refine nthen ?_
  refine cseq ?_
  refine cif rfl (fun h1 => ?_) (fun h1 => ?_)
  · have hlt : i < n := by (have := dt h1; omega)
    obtain ⟨b, o, hp, hbl, hm⟩ := hl.at hlt
    refine cskip ?_
    refine nthen ?_
    refine cseq ?_
    refine cblock ?_
    refine cseq ?_
    refine creg ?_
    refine l1 (mvi rfl) ?_
    refine l1 (asgi rfl) ?_
    refine lnil ?_
    refine nthen ?_
    refine cseq ?_
    refine creg ?_
    refine l1 (mvf rfl) ?_
    refine l1 (mvs rfl) ?_
    refine l1 (mvi rfl) ?_
    refine l1 (isp sl74 hp rfl rfl (by omega) (by omega)) ?_
    refine l1 (ldam (vs := encR (l i)) Try.isAgg79 Try.sizeOf79 rfl rfl (fun w' hw => (hm i hlt).kept hw.below hbl)) ?_
    refine l1 (clc hf rfl (mc rfl mn) (fun w' hw => hq i hlt w' _ hw)) ?_
    refine lnil ?_
    refine nthen ?_
    refine cif rfl (fun h2 => ?_) (fun h2 => ?_)
    · skip
      refine cseq ?_
      refine creg ?_
      refine l1 (mvi rfl) ?_
      refine l1 (asgi rfl) ?_
      refine lnil ?_
      refine nthen ?_
      refine cret ?_
      refine nblkR ?_
      refine nthenR ?_
      refine nIR ?_
      refine nblkR ?_
      refine nthenR ?_
      exact fin1i rfl rfl (by rw [idx_yes hlt h2 hI.2])
    · skip
      refine cskip ?_
      refine nblkN ?_
      refine nthen ?_
      refine creg ?_
      first | refine l1 (addn rfl rfl (ri (by omega) (by omega))) ?_ | refine l1 (add rfl rfl) ?_
      refine l1 (mvi rfl) ?_
      refine lnil ?_
      exact nI (i + 1) ⟨by omega, fun j hj => (Nat.lt_succ_iff_lt_or_eq.1 hj).elim (fun h => hI.2 j h) (fun h => by subst h; exact h2)⟩ (by show n - (i + 1) < n - i; omega) ⟨rfl, rfl, rfl, rfl, trivial⟩ (List.Sublist.refl _)
  · skip
    refine cexit ?_
    refine nthenE ?_
    refine nIE ?_
    refine nblkE ?_
    refine nthen ?_
    refine cseq ?_
    refine creg ?_
    refine l1 (asgi rfl) ?_
    refine lnil ?_
    refine nthen ?_
    refine cret ?_
    exact fin1i rfl rfl (by rw [idx_no (fun j hj => hI.2 j (by have := df h1; omega))])

theorem rowsL_all {q : Rw → Bool} {l : Nat → Rw} {n : Nat} (hno : ∀ j, j < n → q (l j) = false) : ((rowsL l n).filter (fun r => !q r)) = (rowsL l n) := List.filter_eq_self.2 fun r hr => by
  obtain ⟨j, hj, rfl⟩ := List.mem_map.1 hr
  rw [hno j (List.mem_range.1 hj)]; rfl
theorem rowsL_d {l : Nat → Rw} {n j : Nat} (hj : j < n) : (rowsL l n).getD j rz = l j := by
  rw [List.getD_eq_getElem?_getD, rowsL_get hj]; rfl

theorem delfn_calls (w0 w : World) (T oe : List Ent) (p : Option Addr) (n c : Nat) (l : Nat → Rw) (hn : n ≤ 100) (hs : Sat w0 (oe ++ T) w) (ho : OwnL 79 130 (.slice p n c) n ((rowsL l n).flatMap encR) oe) (f : FuncId) (es : List Value) (q : Rw → Bool) (hf : HasBody Try.prog f) (hq : ∀ i, i < n → ∀ w', Sat w0 T w' → Calls Try.prog f (.agg (encR (l i)).toArray :: es).toArray w' (Ret (.bool (q (l i))) w')) (hno : ∀ j, j < n → q (l j) = false) : Calls Try.prog 132 #[.slice p n c, .func (.func f) #[] es.toArray] w (RetS w0 (fun v' H' => ∃ oe', H' = oe' ++ T ∧ OwnL 79 130 v' ((rowsL l n).filter (fun r => !q r)).length (((rowsL l n).filter (fun r => !q r)).flatMap encR) oe')) := by
  refine fn_callsH (n := 42) (H := oe ++ T) hs Try.func132 rfl rfl (lb rfl) ?_
  refine cseq ?_
  refine creg ?_
  refine l1 (asgs rfl) ?_
  refine lnil ?_
  refine nthen ?_
  refine cseq ?_
  refine creg ?_
  refine l1 (mvs rfl) ?_
  refine l1 (mvf rfl) ?_
  refine l1 (cl (v := .int .i64 (-1)) hb148 rfl (mc rfl (mc rfl mn)) (fun w' hw => by (have hidx := idxf_calls w' p n c l hn (SlIn.sl (ho.slInL (fun a => rfl) (fun i hi => ⟨l i, rowsL_get hi, rfl⟩)) (hw.sub (List.sublist_append_left _ _))) f es q hf (fun i hi w'' H'' hw2 => hq i hi w'' ((hw.join hw2).sub ((List.sublist_append_right _ _).trans (List.sublist_append_left _ _)))); rw [idx_no hno] at hidx; exact hidx))) ?_
  refine l1 (asgi rfl) ?_
  refine lnil ?_
  refine nthen ?_
  refine cseq ?_
  refine cseq ?_
  refine creg ?_
  refine l1 (mvi rfl) ?_
  refine l1 (eql rfl rfl) ?_
  refine lnil ?_
  refine nthen ?_
  refine cift rfl ?_
  refine cseq ?_
  refine creg ?_
  refine l1 (mvs rfl) ?_
  refine l1 (asgs rfl) ?_
  refine lnil ?_
  refine nthen ?_
  refine cret ?_
  refine nthenR ?_
  exact finS (.slice p n c) (oe ++ T) (rv1 rfl (rvt rfl)) ⟨_, List.Perm.refl _, List.Sublist.refl _⟩ ⟨oe, rfl, by rw [rowsL_all hno, rowsL_len]; exact ho⟩

set_option maxHeartbeats 1000000 in
theorem delfp_calls (w0 w : World) (T : List Ent) (g n cap : Nat) (R : List Value) (l : Nat → Rw) (hn : n ≤ 100) (hs : Sat w0 (⟨g, (rowsL l n).flatMap encR ++ R, 79⟩ :: T) w) (hcap : n ≤ cap) (hcm : cap ≤ maxLen) (hR : n * 130 + R.length = cap * 130) (f : FuncId) (es : List Value) (q : Rw → Bool) (hf : HasBody Try.prog f) (hq : ∀ i, i < n → ∀ w', Sat w0 T w' → Calls Try.prog f (.agg (encR (l i)).toArray :: es).toArray w' (Ret (.bool (q (l i))) w')) (k0 : Nat) (hk0 : k0 < n) (hx0 : idxR q l n = (k0 : Int)) (hq0 : q (l k0) = true) (hb0 : ∀ j, j < k0 → q (l j) = false) : Calls Try.prog 132 #[.slice (some ⟨g, 0, none⟩) n cap, .func (.func f) #[] es.toArray] w (RetS w0 (fun v' H' => ∃ oe', H' = oe' ++ T ∧ OwnL 79 130 v' ((rowsL l n).filter (fun r => !q r)).length (((rowsL l n).filter (fun r => !q r)).flatMap encR) oe')) := by
  refine fn_callsH (n := 42) (H := ⟨g, (rowsL l n).flatMap encR ++ R, 79⟩ :: T) hs Try.func132 rfl rfl (lb rfl) ?_
  have ho : OwnL 79 130 (.slice (some ⟨g, 0, none⟩) n cap) n ((rowsL l n).flatMap encR) [⟨g, (rowsL l n).flatMap encR ++ R, 79⟩] := ⟨by rw [flatM_len encR_len, rowsL_len], .inr ⟨g, cap, _, rfl, rfl, hcap, hcm, by rw [rows_len, rowsL_len]; exact hR, by rw [flat_take encR_len _ _ (by rw [rowsL_len]; exact Nat.le_refl _), List.take_of_length_le (by rw [rowsL_len]; exact Nat.le_refl _)]⟩⟩
  have hI0 : DelInv (fun r => !q r) (rowsL l n) (k0 + 1) k0 (rowsL l n) := DelInv.start (by rw [rowsL_len]; exact hk0) (fun k hk r hr => by rw [rowsL_get (by omega)] at hr; cases hr; rw [hb0 k hk]; rfl) (by rw [rowsL_d hk0, hq0]; rfl)
  refine cseq ?_
  refine creg ?_
  refine l1 (asgs rfl) ?_
  refine lnil ?_
  refine nthen ?_
  refine cseq ?_
  refine creg ?_
  refine l1 (mvs rfl) ?_
  refine l1 (mvf rfl) ?_
  refine l1 (cl (v := .int .i64 (k0 : Int)) hb148 rfl (mc rfl (mc rfl mn)) (fun w' hw => by (have hidx := idxf_calls w' (some ⟨g, 0, none⟩) n cap l hn (SlIn.sl (ho.slInL (fun a => rfl) (fun i hi => ⟨l i, rowsL_get hi, rfl⟩)) (hw.sub (List.Sublist.cons_cons _ (List.nil_sublist _)))) f es q hf (fun i hi w'' H'' hw2 => hq i hi w'' ((hw.join hw2).sub ((List.Sublist.cons _ (List.Sublist.refl _)).trans (List.sublist_append_left _ _)))); rw [hx0] at hidx; exact hidx))) ?_
  refine l1 (asgi rfl) ?_
  refine lnil ?_
  refine nthen ?_
  refine cseq ?_
  refine cseq ?_
  refine creg ?_
  refine l1 (mvi rfl) ?_
  refine l1 (eql rfl rfl) ?_
  refine lnil ?_
  refine nthen ?_
  refine ciff (bf rfl (decide_eq_false (by omega))) ?_
  refine cskip ?_
  refine nthen ?_
  refine cseq ?_
  refine cseq ?_
  refine creg ?_
  refine l1 (mvi rfl) ?_
  first | refine l1 (addn rfl rfl (ri (by omega) (by omega))) ?_ | refine l1 (add rfl rfl) ?_
  refine l1 (asgi rfl) ?_
  refine lnil ?_
  refine nthen ?_
  refine cblock ?_
  refine cloopI (σ := Nat × Nat × List Rw) (fun s => [(0, .slice (some ⟨g, 0, none⟩) n cap), (1, .func (.func f) #[] es.toArray), (5, .int .i64 (s.2.1 : Int)), (6, .int .i64 (s.1 : Int))]) (fun s => ([⟨g, s.2.2.flatMap encR ++ R, 79⟩] ++ (T))) (fun s => DelInv (fun r => !q r) (rowsL l n) s.1 s.2.1 s.2.2) (fun s => n - s.1) (k0 + 1, k0, (rowsL l n)) hI0 ⟨rfl, rfl, rfl, rfl, trivial⟩ (List.Sublist.refl _) ?_
  rintro ⟨k, i, P⟩ j hI
  show WC _ _ _ (⟨g, P.flatMap encR ++ R, 79⟩ :: (T)) _ _ (over j [(0, .slice (some ⟨g, 0, none⟩) n cap), (1, .func (.func f) #[] es.toArray), (5, .int .i64 (i : Int)), (6, .int .i64 (k : Int))])
  replace hI : DelInv (fun r => !q r) (rowsL l n) k i P := hI; have hLn : (rowsL l n).length = n := rowsL_len l n; have hP : P.length = n := (by rw [hI.len, hLn]); have hij := hI.ij; have hjn : k ≤ n := (by have := hI.jn; omega)
  refine cseq ?_
  refine cseq ?_
  refine creg ?_
  refine l1 (mvi rfl) ?_
  refine l1 (mvs rfl) ?_
  refine l1 (lens sl74 rfl rfl) ?_
  refine l1 (lss rfl rfl) ?_
  refine lnil ?_
  refine nthen ?_
  refine cif rfl (fun h1 => ?_) (fun h1 => ?_)
  · have hlt : k < n := by (have := dt h1; omega)
    refine cskip ?_
    refine nthen ?_
    refine cseq ?_
    refine cblock ?_
    refine cseq ?_
    refine creg ?_
    refine l1 (mvs rfl) ?_
    refine l1 (mvi rfl) ?_
    refine l1 (isp sl74 rfl rfl rfl (by omega) (by omega)) ?_
    refine l1 (lda 0 Try.isAgg79 Try.sizeOf79 rfl rfl (rows_read (j := k) (x := l k) (by omega) (by rw [hI.get (by omega), rowsL_d hlt])) rfl) ?_
    refine lal (zs := encR rz) Try.zeroValue79 rfl (fun b1 => ?_)
    refine wl_perm (ins_perm 1 _ _) ?_
    refine lstw 1 rfl rfl rfl Try.sizeOf79 rfl rfl rfl ?_
    refine lnil ?_
    refine nthen ?_
    refine cseq ?_
    refine creg ?_
    refine l1 (mvf rfl) ?_
    refine l1 (ldw 1 Try.isAgg79 Try.sizeOf79 rfl rfl rfl) ?_
    refine l1 (clc hf rfl (mc rfl mn) (fun w' hw => hq k hlt w' (hw.sub (List.Sublist.cons _ (List.Sublist.cons _ (List.Sublist.refl _)))))) ?_
    refine l1 (nt rfl) ?_
    refine lnil ?_
    refine nthen ?_
    refine cif rfl (fun h2 => ?_) (fun h2 => ?_)
    · skip
      refine cseq ?_
      refine creg ?_
      refine l1 (mvs rfl) ?_
      refine l1 (mvi rfl) ?_
      refine l1 (ldw 1 Try.isAgg79 Try.sizeOf79 rfl rfl rfl) ?_
      refine l1 (isp sl74 rfl rfl rfl (by omega) (by omega)) ?_
      refine lst 0 rfl rfl rfl rfl Try.sizeOf79 rfl (by rw [rows_len, encR_len]; omega) (encR_one (l k)) (rows_write (by omega)) ?_
      refine lnil ?_
      refine nthen ?_
      refine creg ?_
      refine l1 (mvi rfl) ?_
      first | refine l1 (addn rfl rfl (ri (by omega) (by omega))) ?_ | refine l1 (add rfl rfl) ?_
      refine l1 (asgi rfl) ?_
      refine lnil ?_
      refine nblkN ?_
      refine nthen ?_
      refine creg ?_
      refine l1 (mvi rfl) ?_
      first | refine l1 (addn rfl rfl (ri (by omega) (by omega))) ?_ | refine l1 (add rfl rfl) ?_
      refine l1 (asgi rfl) ?_
      refine lnil ?_
      first | exact nI (k + 1, i + 1, P.set i (l k)) (by have := hI.keep (by omega) (by rw [rowsL_d hlt]; exact h2); rwa [rowsL_d hlt] at this) (by show n - (k + 1) < n - k; omega) ⟨rfl, rfl, rfl, rfl, trivial⟩ (List.Sublist.cons_cons _ (List.Sublist.cons _ (List.Sublist.refl _))) | exact nI (k + 1, i, P) (hI.skip (by omega) (by rw [rowsL_d hlt]; exact h2)) (by show n - (k + 1) < n - k; omega) ⟨rfl, rfl, rfl, rfl, trivial⟩ (List.Sublist.cons_cons _ (List.Sublist.cons _ (List.Sublist.refl _)))
    · skip
      refine cskip ?_
      refine nblkN ?_
      refine nthen ?_
      refine creg ?_
      refine l1 (mvi rfl) ?_
      first | refine l1 (addn rfl rfl (ri (by omega) (by omega))) ?_ | refine l1 (add rfl rfl) ?_
      refine l1 (asgi rfl) ?_
      refine lnil ?_
      first | exact nI (k + 1, i + 1, P.set i (l k)) (by have := hI.keep (by omega) (by rw [rowsL_d hlt]; exact h2); rwa [rowsL_d hlt] at this) (by show n - (k + 1) < n - k; omega) ⟨rfl, rfl, rfl, rfl, trivial⟩ (List.Sublist.cons_cons _ (List.Sublist.cons _ (List.Sublist.refl _))) | exact nI (k + 1, i, P) (hI.skip (by omega) (by rw [rowsL_d hlt]; exact h2)) (by show n - (k + 1) < n - k; omega) ⟨rfl, rfl, rfl, rfl, trivial⟩ (List.Sublist.cons_cons _ (List.Sublist.cons _ (List.Sublist.refl _)))
  · have hje : k = n := by (have := df h1; omega)
    refine cexit ?_
    refine nthenE ?_
    refine nIE ?_
    refine nblkE ?_
    refine nthen ?_
    refine cseq ?_
    refine creg ?_
    refine l1 (mvs rfl) ?_
    refine l1 (mvi rfl) ?_
    refine l1 (sllo Try.underlying74 Try.sizeOf79 rfl rfl (by omega) (by omega)) ?_
    refine lclear 0 el74 rfl rfl (by omega) (zrows_is (n - i)) (zrows_len (n - i)) (zrows_one (n - i)) (by rw [zrows_len, rows_len]; omega) rfl ?_
    refine lnil ?_
    refine nthen ?_
    refine cseq ?_
    refine creg ?_
    refine l1 (mvs rfl) ?_
    refine l1 (mvi rfl) ?_
    refine l1 (slhi Try.underlying74 Try.sizeOf79 rfl rfl (by omega) (.inr ⟨g, 0, rfl⟩)) ?_
    refine l1 (asgs rfl) ?_
    refine lnil ?_
    refine nthen ?_
    refine cret ?_
    exact finS (.slice (some ⟨g, 0, none⟩) i cap) _ (rv1 rfl (rvt rfl)) ⟨_, List.Perm.refl _, List.Sublist.refl _⟩ ⟨_, rfl, by (have hd := hI.done' (by omega); rw [← hd.2, ← hd.1]; exact rows_cleared hP (by omega) hcap hcm hR)⟩

theorem delf_calls (w0 w : World) (T oe : List Ent) (v : Value) (n : Nat) (l : Nat → Rw) (hn : n ≤ 100) (hs : Sat w0 (oe ++ T) w) (ho : OwnL 79 130 v n ((rowsL l n).flatMap encR) oe) (f : FuncId) (es : List Value) (q : Rw → Bool) (hf : HasBody Try.prog f) (hq : ∀ i, i < n → ∀ w', Sat w0 T w' → Calls Try.prog f (.agg (encR (l i)).toArray :: es).toArray w' (Ret (.bool (q (l i))) w')) : Calls Try.prog 132 #[v, .func (.func f) #[] es.toArray] w (RetS w0 (fun v' H' => ∃ oe', H' = oe' ++ T ∧ OwnL 79 130 v' ((rowsL l n).filter (fun r => !q r)).length (((rowsL l n).filter (fun r => !q r)).flatMap encR) oe')) := by
  obtain ⟨p, c, rfl⟩ := ho.form
  rcases idx_case q l n with ⟨_, hno⟩ | ⟨k0, hx0, hk0, hq0, hb0⟩
  · exact delfn_calls w0 w T oe p n c l hn hs ho f es q hf hq hno
  · rcases ho.2 with ⟨_, h0, _⟩ | ⟨g, cap, cur, h1, rfl, hcap, hcm, hcl, hct⟩
    · omega
    · cases h1
      have hcur : cur = (rowsL l n).flatMap encR ++ cur.drop (n * 130) := by rw [← hct, List.take_append_drop]
      rw [hcur] at hs
      exact delfp_calls w0 w T g n c (cur.drop (n * 130)) l hn hs hcap hcm (by have : n * 130 ≤ c * 130 := Nat.mul_le_mul_right _ hcap; rw [List.length_drop, hcl]; omega) f es q hf hq k0 hk0 hx0 hq0 hb0

theorem cmpR_calls (a b : Rw) (w : World) : Calls Try.prog 136 #[.agg (encR a).toArray, .agg (encR b).toArray] w (Ret (.int .i64 (cmpH a.hd b.hd)) w) := by
  refine fn_calls (n := 10) Try.func136 rfl rfl (lb rfl) ?_
  refine cseq ?_
  refine creg ?_
  refine lbxa rfl (fun b1 => ?_)
  refine lbxa rfl (fun b2 => ?_)
  refine l1 (asgi rfl) ?_
  refine lnil ?_
  refine nthen ?_
  refine cseq ?_
  refine creg ?_
  refine l1 (fa fa79_0 rfl) ?_
  refine l1 (lda 0 Try.isAgg37 Try.sizeOf37 rfl rfl (encR_hd _) rfl) ?_
  refine l1 (fa fa79_0 rfl) ?_
  refine l1 (lda 1 Try.isAgg37 Try.sizeOf37 rfl rfl (encR_hd _) rfl) ?_
  refine l1 (cl hb69 rfl (mc rfl (mc rfl mn)) (fun w hw => compare_calls _ _ w)) ?_
  refine l1 (asgi rfl) ?_
  refine lnil ?_
  refine nthen ?_
  refine cret ?_
  exact fin1 rfl rfl

set_option maxHeartbeats 1000000 in
theorem maxf_calls (w : World) (p : Option Addr) (c : Nat) (L : List Rw) (hn : (L.length : Int) ≤ 9223372036854775807) (h0 : 0 < L.length) (hl : Sl w p L.length 130 (fun i => encR (L.getD i rz))) : Calls Try.prog 135 #[.slice p L.length c, .func (.func 136) #[] #[]] w (Ret (.agg (encR (maxT L (L.length - 1))).toArray) w) := by
  refine fn_calls (n := 33) Try.func135 rfl rfl (lb rfl) ?_
  obtain ⟨b, o, rfl, hbl, hm⟩ := hl.at h0
  refine cseq ?_
  refine creg ?_
  refine lal (zs := encR rz) Try.zeroValue79 rfl (fun b1 => ?_)
  refine lnil ?_
  refine nthen ?_
  refine cseq ?_
  refine cseq ?_
  refine creg ?_
  refine l1 (mvs rfl) ?_
  refine l1 (lens sl74 rfl rfl) ?_
  refine l1 (lss rfl rfl) ?_
  refine lnil ?_
  refine nthen ?_
  refine ciff (bf rfl (decide_eq_false (by omega))) ?_
  refine cskip ?_
  refine nthen ?_
  refine cseq ?_
  refine creg ?_
  refine l1 (mvs rfl) ?_
  refine l1 (isp sl74 rfl rfl rfl (by omega) (by omega)) ?_
  refine l1 (ldam (vs := encR (L.getD (0) rz)) Try.isAgg79 Try.sizeOf79 rfl rfl (fun w' hw => by rw [show ((0 : Int)).toNat = (0) from by omega]; exact (hm (0) (by omega)).kept hw.below hbl)) ?_
  refine lal (zs := encR rz) Try.zeroValue79 rfl (fun b2 => ?_)
  refine lstw (cs := encR (maxT L 0)) 1 rfl rfl rfl Try.sizeOf79 rfl rfl rfl ?_
  refine lnil ?_
  refine nthen ?_
  refine cseq ?_
  refine cseq ?_
  refine creg ?_
  refine l1 (asgi rfl) ?_
  refine lnil ?_
  refine nthen ?_
  refine cblock ?_
  refine cloopI (σ := Nat) (fun s => [(0, .slice (some ⟨b, o, none⟩) L.length c), (1, .func (.func 136) #[] #[]), (4, .pointer (some ⟨b1, 0, none⟩)), (5, .pointer (some ⟨b2, 0, none⟩)), (6, .int .i64 ((s : Int) + 1))]) (fun s => [⟨b1, encR rz, 79⟩, ⟨b2, encR (maxT L s), 79⟩]) (fun s => s < L.length) (fun s => L.length - s) 0 (by omega) ⟨rfl, rfl, rfl, rfl, rfl, trivial⟩ (List.Sublist.refl _) ?_
  rintro i j hi
  show WC _ _ _ ([⟨b1, encR rz, 79⟩, ⟨b2, encR (maxT L i), 79⟩]) _ _ (over j [(0, .slice (some ⟨b, o, none⟩) L.length c), (1, .func (.func 136) #[] #[]), (4, .pointer (some ⟨b1, 0, none⟩)), (5, .pointer (some ⟨b2, 0, none⟩)), (6, .int .i64 ((i : Int) + 1))])
  replace hi : i < L.length := hi
  refine cseq ?_
  refine cseq ?_
  refine creg ?_
  refine l1 (mvi rfl) ?_
  refine l1 (mvs rfl) ?_
  refine l1 (lens sl74 rfl rfl) ?_
  refine l1 (lss rfl rfl) ?_
  refine lnil ?_
  refine nthen ?_
  refine cif rfl (fun h1 => ?_) (fun h1 => ?_)
  · have hlt : i + 1 < L.length := by (have := dt h1; omega)
    refine cskip ?_
    refine nthen ?_
    refine cseq ?_
    refine cblock ?_
    refine cseq ?_
    refine cregq mo (by kernel_rfl) ?_
    refine q1 (mvf rfl) ?_
    refine q1 (mvs rfl) ?_
    refine q1 (mvi rfl) ?_
    refine q1 (isp sl74 rfl rfl rfl (by omega) (by omega)) ?_
    refine q1 (ldam (vs := encR (L.getD (i + 1) rz)) Try.isAgg79 Try.sizeOf79 rfl rfl (fun w' hw => by rw [show ((i : Int) + 1).toNat = (i + 1) from by omega]; exact (hm (i + 1) (by omega)).kept hw.below hbl)) ?_
    refine q1 (ldw 1 Try.isAgg79 Try.sizeOf79 rfl rfl rfl) ?_
    refine q1 (cl hb136 rfl (mc rfl (mc rfl mn)) (fun w hw => cmpR_calls _ _ w)) ?_
    refine q1 (gtr rfl rfl) ?_
    refine qnil ?_
    refine nthen ?_
    refine cif rfl (fun h2 => ?_) (fun h2 => ?_)
    · skip
      refine creg ?_
      refine l1 (mvs rfl) ?_
      refine l1 (mvi rfl) ?_
      refine l1 (isp sl74 rfl rfl rfl (by omega) (by omega)) ?_
      refine l1 (ldam (vs := encR (L.getD (i + 1) rz)) Try.isAgg79 Try.sizeOf79 rfl rfl (fun w' hw => by rw [show ((i : Int) + 1).toNat = (i + 1) from by omega]; exact (hm (i + 1) (by omega)).kept hw.below hbl)) ?_
      refine lstw 1 rfl rfl rfl Try.sizeOf79 rfl rfl rfl ?_
      refine lnil ?_
      refine nblkN ?_
      refine nthen ?_
      refine creg ?_
      refine l1 (mvi rfl) ?_
      first | refine l1 (addn rfl rfl (ri (by omega) (by omega))) ?_ | refine l1 (add rfl rfl) ?_
      refine l1 (asgi rfl) ?_
      refine lnil ?_
      first | exact nI (i + 1) (by show i + 1 < L.length; omega) (by show L.length - (i + 1) < L.length - i; omega) ⟨rfl, rfl, rfl, rfl, rfl, trivial⟩ (by rw [maxT_t hlt h2]; exact List.Sublist.refl _) | exact nI (i + 1) (by show i + 1 < L.length; omega) (by show L.length - (i + 1) < L.length - i; omega) ⟨rfl, rfl, rfl, rfl, rfl, trivial⟩ (by rw [maxT_f hlt h2]; exact List.Sublist.refl _)
    · skip
      refine cskip ?_
      refine nblkN ?_
      refine nthen ?_
      refine creg ?_
      refine l1 (mvi rfl) ?_
      first | refine l1 (addn rfl rfl (ri (by omega) (by omega))) ?_ | refine l1 (add rfl rfl) ?_
      refine l1 (asgi rfl) ?_
      refine lnil ?_
      first | exact nI (i + 1) (by show i + 1 < L.length; omega) (by show L.length - (i + 1) < L.length - i; omega) ⟨rfl, rfl, rfl, rfl, rfl, trivial⟩ (by rw [maxT_t hlt h2]; exact List.Sublist.refl _) | exact nI (i + 1) (by show i + 1 < L.length; omega) (by show L.length - (i + 1) < L.length - i; omega) ⟨rfl, rfl, rfl, rfl, rfl, trivial⟩ (by rw [maxT_f hlt h2]; exact List.Sublist.refl _)
  · have hall : i = L.length - 1 := by (have := df h1; omega)
    subst hall
    refine cexit ?_
    refine nthenE ?_
    refine nIE ?_
    refine nblkE ?_
    refine nthen ?_
    refine cseq ?_
    refine creg ?_
    refine l1 (ldw 1 Try.isAgg79 Try.sizeOf79 rfl rfl rfl) ?_
    refine lstw 0 rfl rfl rfl Try.sizeOf79 rfl rfl rfl ?_
    refine lnil ?_
    refine nthen ?_
    refine cret ?_
    exact finc 0 rfl Try.isAgg79 Try.sizeOf79 rfl rfl rfl rfl

theorem lat_none {q : Rw → Bool} {L : List Rw} (h : decide (((L.filter q).length : Int) = 0) = true) : latR q L = (rz, false) := by unfold latR; rw [h]; rfl
theorem lat_some {q : Rw → Bool} {L : List Rw} (h : decide (((L.filter q).length : Int) = 0) = false) : latR q L = (maxT (L.filter q) ((L.filter q).length - 1), true) := by unfold latR; rw [h]; rfl

set_option maxHeartbeats 1000000 in
theorem latest_calls (w : World) (p : Option Addr) (n c : Nat) (l : Nat → Rw) (hn : n ≤ 100) (hl : Sl w p n 130 (fun i => encR (l i))) (k : FuncId) (q : Rw → Bool) (hk : HasBody Try.prog k) (hq : ∀ i, i < n → PredC w k [] q (l i)) : Calls Try.prog 114 #[.slice p n c, .func (.func k) #[] #[]] w (Ret (.tuple #[.agg (encR (latR q (rowsL l n)).1).toArray, .bool (latR q (rowsL l n)).2]) w) := by
  refine fn_calls (n := 16) Try.func114 rfl rfl (lb rfl) ?_
  refine cseq ?_
  refine creg ?_
  refine lbxf rfl (fun b1 => ?_)
  refine lal (zs := encR rz) Try.zeroValue79 rfl (fun b2 => ?_)
  refine l1 (asgb rfl) ?_
  refine lnil ?_
  refine nthen ?_
  refine cseq ?_
  refine creg ?_
  refine l1 (mvs rfl) ?_
  refine lclm hb133 rfl (mc rfl mn) (fun w' hw => clr_calls w' _ _ _ l hn (Sl.keptS hl hw)) ?_
  rintro v7 Hn ho
  replace ho : OwnL 79 130 v7 n ((rowsL l n).flatMap encR) Hn := by rw [rowsL_flat]; exact ho
  refine l1 (mkf1 rfl) ?_
  refine lcls (Hn ++ [⟨b1, [.func (.func k) #[] #[]], 81⟩, ⟨b2, encR rz, 79⟩]) hb132 rfl (mc rfl (mc rfl mn)) (fun w' hw => delf_calls w w' [⟨b1, [.func (.func k) #[] #[]], 81⟩, ⟨b2, encR rz, 79⟩] Hn v7 n l hn hw ho 134 [.pointer (some ⟨b1, 0, none⟩)] (fun r => !q r) hb134 (fun i hi w'' hw'' => nota_calls (l i) w'' k q b1 hk (fun w3 H h3 => hq i hi w3 _ (hw''.join h3)) (hw''.lt (e := ⟨b1, [.func (.func k) #[] #[]], 81⟩) (by simp)) (hw''.cell (i := 0) (e := ⟨b1, [.func (.func k) #[] #[]], 81⟩) rfl rfl))) ⟨_, List.perm_append_comm, List.Sublist.refl _⟩ ?_
  rintro v9 H9 ⟨oe, rfl, ho9⟩
  simp only [Bool.not_not] at ho9
  replace ho9 : OwnL 79 130 v9 ((rowsL l n).filter q).length (((rowsL l n).filter q).flatMap encR) oe := ho9
  obtain ⟨p9, c9, rfl⟩ := ho9.form
  refine wl_perm List.perm_append_comm ?_
  refine l1 (asgs rfl) ?_
  refine lnil ?_
  refine nthen ?_
  refine cseq ?_
  refine cseq ?_
  refine creg ?_
  refine l1 (mvs rfl) ?_
  refine l1 (lens sl74 rfl rfl) ?_
  refine l1 (eql rfl rfl) ?_
  refine lnil ?_
  refine nthen ?_
  refine cif rfl (fun h1 => ?_) (fun h1 => ?_)
  · rw [lat_none h1]
    refine cseq ?_
    refine creg ?_
    refine l1 (bld0 bk79z) ?_
    refine lstw 1 rfl rfl rfl Try.sizeOf79 rfl rfl rfl ?_
    refine l1 (asgb rfl) ?_
    refine lnil ?_
    refine nthen ?_
    refine cret ?_
    refine nthenR ?_
    exact fin (rv2 rfl (rvc 1 Try.isAgg79 Try.sizeOf79 rfl rfl rfl rfl) (rvt rfl))
  · rw [lat_some h1]
    have hle : ((rowsL l n).filter q).length ≤ n := (by have := List.length_filter_le q (rowsL l n); rwa [rowsL_len] at this)
    have hpos : 0 < ((rowsL l n).filter q).length := (by have := df h1; omega)
    refine cskip ?_
    refine nthen ?_
    refine cseq ?_
    refine creg ?_
    refine l1 (mvs rfl) ?_
    refine l1 (cl (v := .agg (encR (maxT ((rowsL l n).filter q) (((rowsL l n).filter q).length - 1))).toArray) hb135 rfl (mc rfl (mc rfl mn)) (fun w' hw => maxf_calls w' p9 c9 ((rowsL l n).filter q) (by omega) hpos (SlIn.sl (ho9.slInL (fun a => rfl) (fun i hi => ⟨_, List.getElem?_eq_getElem hi, by rw [List.getD_eq_getElem?_getD, List.getElem?_eq_getElem hi]; rfl⟩)) (hw.sub (List.Sublist.cons _ (List.Sublist.cons _ (List.Sublist.refl _))))))) ?_
    refine lstw 1 rfl rfl rfl Try.sizeOf79 rfl rfl rfl ?_
    refine l1 (asgb rfl) ?_
    refine lnil ?_
    refine nthen ?_
    refine cret ?_
    exact fin (rv2 rfl (rvc 1 Try.isAgg79 Try.sizeOf79 rfl rfl rfl rfl) (rvt rfl))
end Go.Proofs.Ytkdbjhlkahkobaa
