/- a region that draws its order, whose last operations come last in every order: the first ones are quiet, the last ones are walked one by one -/
import Derived.Test.YtkdbjhlkahkobaaAny
import Derived.StillTail
namespace Jal
open Go Go.RowKit
section
variable {P : Program} {ops : Array Oper} {md : Region.Mode} {Y : Nat → Oper → Value → Act → Prop}
def wEL (md : Region.Mode) (ops : Array Oper) (Y : Nat → Oper → Value → Act → Prop) (n : Nat) (L : Array Bool → Act → Prop) : Nat → Array Bool → Act → Prop
  | 0, listed, a => L listed a
  | f + 1, listed, a =>
    Region.ready md ops listed ≠ [] ∧ ∀ i ∈ Region.ready md ops listed, i < n ∧ oE ops Y i (wEL md ops Y n L f (listed.setIfInBounds i true)) a
theorem oE_of {i : Nat} {oi : Oper} {v : Value} {a : Act} {K : Act → Prop} (hi : ops[i]? = some oi) (hy : Y i oi v a) (h : K (a.put oi.dst v)) : oE ops Y i K a := by
  unfold oE; simp only [hi]; exact ⟨v, hy, h⟩
theorem wEL_first (hF : Fit ops Y) {n i : Nat} {oi : Oper} {v : Value} {L : Array Bool → Act → Prop} (hi : ops[i]? = some oi)
    (hs : Region.sinkB md ops n = true) (hc : Region.chainB md ops n = true) (hn : n < ops.size) (hin : i < n)
    (hdone : ∀ listed a, L listed a → ∀ j ∈ Region.ready md ops listed, n ≤ j) :
    ∀ (f : Nat) (listed : Array Bool) (a : Act), HeadInv md ops n listed →
      (∀ j oj, ops[j]? = some oj → j ≠ i → listed.getD j true = false → (∀ e ∈ oj.after, Region.binds md e = true → e.on ≠ i) → oi.apart ops oj = true) →
      i ∈ Region.ready md ops listed → Y i oi v a →
      wEL md ops Y n L f (listed.setIfInBounds i true) (a.put oi.dst v) → wEL md ops Y n L (f + 1) listed a := by
  intro f
  induction f with
  | zero =>
    intro listed a inv _ hr hy H
    have hun := (mem_ready.1 hr).1
    refine ⟨fun h => (by rw [h] at hr; cases hr), fun j hj => ?_⟩
    have hjn : j < n := by
      rcases Nat.lt_or_ge j n with h | h
      · exact h
      · exact absurd hj (tail_waits hs hc hn inv _ i rfl hin hun j h)
    refine ⟨hjn, ?_⟩
    by_cases hji : j = i
    · subst hji; exact oE_of hi hy H
    · have := hdone _ _ H j (ready_mono hj hji)
      omega
  | succ f ih =>
    intro listed a inv hfree hr hy H
    have hun := (mem_ready.1 hr).1
    refine ⟨fun h => (by rw [h] at hr; cases hr), fun j hj => ?_⟩
    have hjn : j < n := by
      rcases Nat.lt_or_ge j n with h | h
      · exact h
      · exact absurd hj (tail_waits hs hc hn inv _ i rfl hin hun j h)
    refine ⟨hjn, ?_⟩
    by_cases hji : j = i
    · subst hji; exact oE_of hi hy H
    · have h1 := (H.2 j (ready_mono hj hji)).2
      obtain ⟨hjun, oj, hoj, hall⟩ := mem_ready.1 hj
      have hnot : ∀ e ∈ oj.after, Region.binds md e = true → e.on ≠ i := fun e he hb heq => by
        have h1 := hall e he hb
        rw [heq, getD_both hun] at h1
        cases h1
      have h2 := oE_put hF hi hoj (hfree j oj hoj hji hjun hnot) hy h1
      have hfree' : ∀ k ok, ops[k]? = some ok → k ≠ i → (listed.setIfInBounds j true).getD k true = false →
          (∀ e ∈ ok.after, Region.binds md e = true → e.on ≠ i) → oi.apart ops ok = true := fun k ok hk hki hun hno => by
        refine hfree k ok hk hki ?_ hno
        by_cases hjk : j = k
        · subst hjk; exact hjun
        · rw [getD_set_ne true hjk] at hun; exact hun
      refine oE_mono (fun a' h3 => ih (listed.setIfInBounds j true) a' (inv.set hj hjn) hfree' (ready_mono hr (Ne.symm hji)) h3.1 ?_) h2
      rw [Array.setIfInBounds_comm _ _ hji]
      exact h3.2
theorem wEL_lex (hF : Fit ops Y) {n g : Nat} {Lq : Act → Prop} (hs : Region.sinkB md ops n = true) (hc : Region.chainB md ops n = true) (hn : n < ops.size) :
    ∀ (l : List Oper) (k : Nat) (listed : Array Bool) (a : Act), (∀ j, j < l.length → l[j]? = ops[k + j]?) → k + l.length = n → HeadInv md ops n listed →
    Region.lexHead md ops g l.length k listed = true → wT ops Y Lq k l a →
    wEL md ops Y n (fun listed' a' => Region.seqB md ops g n listed' = true ∧ Lq a') l.length listed a
  | [], k, listed, a, _, hk, _, hB, h => by
    have : k = n := by simpa using hk
    subst this
    exact ⟨by simpa [Region.lexHead] using hB, h⟩
  | o :: l, k, listed, a, hl, hk, inv, hB, h => by
    have h0 : ops[k]? = some o := by simpa using (hl 0 (by simp)).symm
    simp only [List.length_cons, Region.lexHead, Bool.and_eq_true] at hB
    obtain ⟨⟨hr, hf⟩, hB'⟩ := hB
    have hkn : k < n := by simp only [List.length_cons] at hk; omega
    have hr' : k ∈ Region.ready md ops listed := by simpa using hr
    obtain ⟨v, hy, hK⟩ := h
    exact wEL_first hF h0 hs hc hn hkn (fun listed' a' hL => seqB_ready hL.1) l.length listed a inv (Region.free_spec h0 hf) hr' hy
      (wEL_lex hF hs hc hn l (k + 1) _ _ (fun j hj => by have := hl (j + 1) (by simp; omega); simpa [Nat.add_assoc, Nat.add_comm 1 j] using this) (by simp only [List.length_cons] at hk; omega) (inv.set hr' hkn) hB' hK)
end
def YQ (P : Program) (ops : Array Oper) (C : World → Prop) (_ : Nat) (o : Oper) (v : Value) (a : Act) : Prop := YieldsIn P ops C o v a
theorem fitQ {P : Program} {ops : Array Oper} {C : World → Prop} (hsel : Region.noSelect ops = true) : Fit ops (YQ P ops C) := by
  intro i o v a d u hi hd
  have hs : ∀ cs b, o.op ≠ .select cs b := fun cs b => Region.noSelect_spec hsel i o cs b hi
  unfold YQ YieldsIn Oper.quietAt
  rw [execOp_put o hs a d u hd, wanted_put o a d u hd]
theorem wTQ_of_quiet {P : Program} {ops : Array Oper} {C : World → Prop} {Q : Act → Prop} : ∀ (l : List Oper) (k : Nat) (a : Act), wpQuiet P ops C Q l a → wT ops (YQ P ops C) Q k l a
  | [], _, _, h => h
  | x :: l, k, a, h => by
    unfold wpQuiet at h
    by_cases hw : Region.wanted x (yielded ops a.tmps) = true
    · rw [if_pos hw] at h
      obtain ⟨v, h1, h2⟩ := h
      exact ⟨v, .inl ⟨hw, h1⟩, wTQ_of_quiet l (k + 1) _ h2⟩
    · rw [if_neg hw] at h
      exact ⟨undef, .inr ⟨by simpa using hw, rfl⟩, wTQ_of_quiet l (k + 1) _ h⟩
theorem wpAny_of_wEL {P : Program} {ops : Array Oper} {md : Region.Mode} {C : World → Prop} {Q' : Exit → Act → World → Prop} {n g : Nat} {L : Array Bool → Act → Prop}
    (hL : ∀ listed a w, C w → L listed a → wpAny P md ops Q' g listed a w) :
    ∀ (f : Nat) (listed : Array Bool) (a : Act) (w : World), C w → wEL md ops (YQ P ops C) n L f listed a → wpAny P md ops Q' (f + g) listed a w
  | 0, listed, a, w, hw, h => by rw [Nat.zero_add]; exact hL _ _ _ hw h
  | f + 1, listed, a, w, hw, h => by
    rw [show f + 1 + g = (f + g) + 1 by omega]
    refine ⟨fun h0 => absurd h0 h.1, fun i hi => ?_⟩
    have h1 := (h.2 i hi).2
    obtain ⟨_, o, ho, _⟩ := mem_ready.1 hi
    unfold oE at h1
    simp only [ho] at h1
    obtain ⟨v, hy, hK⟩ := h1
    refine wpOp_of_qOp (C := C) (K := fun a' => a' = a.put o.dst v) hw (fun a' w' hw' ha => ?_) (YieldsIn.qOp ho hy rfl)
    subst ha
    exact wpAny_of_wEL hL f _ _ _ hw' hK
theorem cregT {P : Program} {Q : Exit → Act → World → Prop} {w0 : World} {H : List Ent} {n : Nat} {F : Nat → Value} {id : Nat} {l : List Oper} (k : Nat)
    (hm : P.follows .mixedOrders = true) (hB : Region.lexTailB .any l.toArray k = true)
    (h : WQ P l.toArray w0 H (fun a' => ∀ w', Sat w0 H w' → wpList P l.toArray Q (l.drop k) a' w') (l.take k) n F) :
    WC P Q w0 H (.region id l.toArray true) n F := by
  intro w hw
  simp only [Region.lexTailB, Bool.and_eq_true, decide_eq_true_eq] at hB
  obtain ⟨⟨⟨⟨hsel, hn⟩, hs⟩, hc⟩, hlex⟩ := hB
  have hn' : k < l.length := by simpa using hn
  have htl : (l.take k).length = k := by simp; omega
  have hdl : (l.drop k).length = l.toArray.size - k := by simp
  have inv0 : HeadInv .any l.toArray k (Array.replicate l.toArray.size false) :=
    ⟨by simp, fun j oj _ hl => (by rw [getD_replicate_false] at hl; cases hl), fun t _ ht => getD_in (by simpa using ht) (getD_replicate_false _ _)⟩
  have H1 := wEL_lex (md := .any) (g := l.toArray.size - k) (fitQ (P := P) (C := Sat w0 H) hsel) hs hc hn (l.take k) 0 _ (fr n F) (fun j hj => by
    have hj' : j < k := by rw [htl] at hj; exact hj
    simp [hj']) (by simpa using htl) inv0 (by rw [htl]; exact hlex) (wTQ_of_quiet _ 0 _ h)
  refine wp_region_any hm ?_
  have := wpAny_of_wEL (Q' := Q) (g := l.toArray.size - k) (fun listed a' w' hw' hL => by
    have := wpAny_of_seq (md := .any) (Q' := Q) (l.drop k) k listed a' w' (fun j => by simp [List.getElem?_drop]) (by rw [hdl]; exact hL.1) (hL.2 w' hw')
    rwa [hdl] at this) _ _ _ _ hw.drew H1
  rw [htl, show k + (l.toArray.size - k) = l.toArray.size by omega] at this
  exact this
theorem qtail {P : Program} {ops : Array Oper} {Q : Exit → Act → World → Prop} {w0 : World} {H : List Ent} {n : Nat} {F : Nat → Value} {tl : List Oper} (h : WL P ops Q w0 H tl n F) :
    WQ P ops w0 H (fun a' => ∀ w', Sat w0 H w' → wpList P ops Q tl a' w') [] n F := h
end Jal
