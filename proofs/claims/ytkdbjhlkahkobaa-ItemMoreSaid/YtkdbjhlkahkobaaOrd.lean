/- the order in which entries come: plain laws -/
import Derived.Test.YtkdbjhlkahkobaaWr
namespace Go.Proofs.Ytkdbjhlkahkobaa
open Jal Go.RowKit
set_option maxRecDepth 100000
def minL (m : Hd) (l : List Hd) : Hd := l.foldl (fun m x => bif decide (firstH x m < 0) then x else m) m
def pick (hs : List Hd) (v : Vec) : Option Hd :=
  match hs.filter (readyH v) with
  | [] => none
  | h :: t => some (minL h t)
def putV (v : Vec) (h : Hd) : Vec := ui v (h.writer - 1).toNat h.seq
def core (h : Hd) : Hd := { h with tp := none, tc := 0 }
inductive Path (hs : List Hd) (v : Vec) : List Hd → Vec → Prop
  | nil : Path hs v [] v
  | snoc {O : List Hd} {v' : Vec} {h o : Hd} : Path hs v O v' → pick hs v' = some h → core o = core h → Path hs v (O ++ [o]) (putV v' h)
theorem or2_neg {a b : Int} : or2 a b < 0 ↔ a < 0 ∨ a = 0 ∧ b < 0 := by
  unfold or2
  simp only [cond_eq_ite, decide_eq_true_eq]
  by_cases ha : a = 0 <;> by_cases hb : b = 0 <;> simp [ha, hb] <;> omega
theorem cmpI_neg {a b : Int} : cmpI a b < 0 ↔ a < b := by
  unfold cmpI
  simp only [cond_eq_ite, decide_eq_true_eq]
  by_cases h1 : a < b <;> by_cases h2 : a > b <;> simp [h1, h2] <;> omega
theorem first_iff {a b : Hd} : firstH a b < 0 ↔ a.time < b.time ∨ a.time = b.time ∧ a.writer < b.writer := by
  unfold firstH
  rw [or2_neg, cmpI_neg, cmpI_zero, cmpI_neg]
theorem minL_mem : ∀ (l : List Hd) (m : Hd), minL m l ∈ m :: l
  | [], m => by simp [minL]
  | x :: l, m => by
    show minL (bif decide (firstH x m < 0) then x else m) l ∈ _
    have ih := minL_mem l (bif decide (firstH x m < 0) then x else m)
    rcases List.mem_cons.1 ih with h | h
    · rw [h]; cases decide (firstH x m < 0) <;> simp
    · simp [h]
theorem minL_min : ∀ (l : List Hd) (m : Hd), ∀ x ∈ m :: l, ¬ firstH x (minL m l) < 0
  | [], m, x, hx => by
    obtain rfl := List.mem_singleton.1 hx
    show ¬ firstH x x < 0
    rw [first_iff]; omega
  | y :: l, m, x, hx => by
    show ¬ firstH x (minL (bif decide (firstH y m < 0) then y else m) l) < 0
    have ih := minL_min l (bif decide (firstH y m < 0) then y else m)
    rcases List.mem_cons.1 hx with rfl | hx
    · have h0 := ih _ (List.mem_cons_self ..)
      rw [first_iff] at h0 ⊢
      by_cases hy : firstH y x < 0
      · rw [decide_eq_true hy] at h0 ⊢
        simp only [cond_true] at h0 ⊢
        rw [first_iff] at hy; omega
      · rw [decide_eq_false hy] at h0 ⊢
        exact h0
    · rcases List.mem_cons.1 hx with rfl | hx
      · have h0 := ih _ (List.mem_cons_self ..)
        rw [first_iff] at h0 ⊢
        by_cases hy : firstH x m < 0
        · rw [decide_eq_true hy] at h0 ⊢
          exact h0
        · rw [decide_eq_false hy] at h0 ⊢
          simp only [cond_false] at h0 ⊢
          rw [first_iff] at hy; omega
      · exact ih x (List.mem_cons_of_mem _ hx)
theorem pick_spec {hs : List Hd} {v : Vec} {h : Hd} (hp : pick hs v = some h) : h ∈ hs ∧ readyH v h = true ∧ ∀ x ∈ hs, readyH v x = true → ¬ firstH x h < 0 := by
  unfold pick at hp
  split at hp
  · cases hp
  · rename_i a t he
    cases hp
    have h1 : minL a t ∈ hs.filter (readyH v) := by rw [he]; exact minL_mem t a
    obtain ⟨h2, h3⟩ := List.mem_filter.1 h1
    refine ⟨h2, h3, fun x hx hr => minL_min t a x ?_⟩
    rw [← he]; exact List.mem_filter.2 ⟨hx, hr⟩
theorem pick_none {hs : List Hd} {v : Vec} : pick hs v = none ↔ hs.filter (readyH v) = [] := by
  unfold pick
  split <;> simp_all
theorem ready_formed {v : Vec} {h : Hd} (hr : readyH v h = true) : formedH h = true ∧ v (h.writer - 1).toNat = h.seq - 1 := by
  unfold readyH at hr
  simp only [Bool.and_eq_true, decide_eq_true_eq] at hr
  exact hr.1
theorem ready_core (v : Vec) (h : Hd) : readyH v (core h) = readyH v h := rfl
theorem ready_of_core {v : Vec} {o h : Hd} (hc : core o = core h) : readyH v o = readyH v h := by rw [← ready_core, hc, ready_core]
theorem put_of_core {v : Vec} {o h : Hd} (hc : core o = core h) : putV v o = putV v h := by
  have h1 : (core o).writer = (core h).writer := by rw [hc]
  have h2 : (core o).seq = (core h).seq := by rw [hc]
  have h1' : o.writer = h.writer := h1
  have h2' : o.seq = h.seq := h2
  unfold putV
  rw [h1', h2']

/-! ### it ends -/
def laterV (v : Vec) (h : Hd) : Bool := formedH h && decide (v (h.writer - 1).toNat < h.seq)
theorem countP_lt {p q : Hd → Bool} : ∀ {l : List Hd}, (∀ x ∈ l, p x = true → q x = true) → (∃ x ∈ l, q x = true ∧ p x = false) → l.countP p < l.countP q
  | [], _, h => by obtain ⟨x, hx, _⟩ := h; cases hx
  | a :: l, hpq, hx => by
    have hle : l.countP p ≤ l.countP q := List.countP_mono_left (fun x hx h => hpq x (List.mem_cons_of_mem _ hx) h)
    rw [List.countP_cons, List.countP_cons]
    obtain ⟨x, hx, h1, h2⟩ := hx
    rcases List.mem_cons.1 hx with rfl | hx
    · rw [h1, h2]; simp; omega
    · have ih := countP_lt (l := l) (fun x hx h => hpq x (List.mem_cons_of_mem _ hx) h) ⟨x, hx, h1, h2⟩
      have ha := hpq a (List.mem_cons_self ..)
      cases hp : p a with
      | false => simp; omega
      | true => rw [ha hp]; simp; omega
theorem putV_get (v : Vec) (h : Hd) (i : Nat) : putV v h i = bif Nat.beq i (h.writer - 1).toNat then h.seq else v i := rfl
theorem put_later {hs : List Hd} {v : Vec} {h : Hd} (hp : pick hs v = some h) : hs.countP (laterV (putV v h)) < hs.countP (laterV v) := by
  obtain ⟨hm, hr, _⟩ := pick_spec hp
  obtain ⟨hf, hv⟩ := ready_formed hr
  have hw := formed_w hf
  refine countP_lt (fun x _ hx => ?_) ⟨h, hm, ?_, ?_⟩
  · unfold laterV at hx ⊢
    simp only [Bool.and_eq_true, decide_eq_true_eq] at hx ⊢
    refine ⟨hx.1, ?_⟩
    have h1 := hx.2
    rw [putV_get] at h1
    cases hb : Nat.beq (x.writer - 1).toNat (h.writer - 1).toNat with
    | false => rw [hb] at h1; exact h1
    | true =>
      rw [hb] at h1
      simp only [cond_true] at h1
      rw [Nat.eq_of_beq_eq_true hb]; omega
  · unfold laterV
    rw [hf, Bool.true_and, decide_eq_true_eq]; omega
  · unfold laterV
    rw [putV_get, beq_yes]; simp
theorem path_len {hs : List Hd} {v0 v : Vec} {O : List Hd} (h : Path hs v0 O v) : O.length + hs.countP (laterV v) ≤ hs.length := by
  induction h with
  | nil => simpa using List.countP_le_length
  | snoc _ hp _ ih => have := put_later hp; rw [List.length_append]; simp only [List.length_cons, List.length_nil]; omega

/-! ### what came -/
def runV (v : Vec) (O : List Hd) : Vec := O.foldl putV v
theorem runV_snoc (v : Vec) (O : List Hd) (o : Hd) : runV v (O ++ [o]) = putV (runV v O) o := by simp [runV]
theorem path_end {hs : List Hd} {v0 v : Vec} {O : List Hd} (h : Path hs v0 O v) : v = runV v0 O := by
  induction h with
  | nil => rfl
  | snoc _ _ hc ih => rw [runV_snoc, ← ih, put_of_core hc]
theorem path_ready {hs : List Hd} {v0 v : Vec} {O : List Hd} (h : Path hs v0 O v) : ∀ i o, O[i]? = some o → readyH (runV v0 (O.take i)) o = true := by
  induction h with
  | nil => intro i o h; cases h
  | snoc hP hp hc ih =>
    rename_i O1 v' h1 o1
    intro i o hi
    rcases Nat.lt_or_ge i O1.length with hlt | hge
    · rw [List.getElem?_append_left hlt] at hi
      rw [List.take_append_of_le_length (by omega)]
      exact ih i o hi
    · have hi1 : i = O1.length := by
        have := (List.getElem?_eq_some_iff.1 hi).1
        simp at this; omega
      subst hi1
      simp at hi
      subst hi
      rw [List.take_left, ← path_end hP, ready_of_core hc]
      exact (pick_spec hp).2.1
theorem path_none {hs : List Hd} {v0 v : Vec} {O : List Hd} (h : Path hs v0 O v) (hn : pick hs v0 = none) : O = [] ∧ v = v0 := by
  induction h with
  | nil => exact ⟨rfl, rfl⟩
  | snoc hP hp hc ih =>
    obtain ⟨_, h2⟩ := ih
    subst h2
    rw [hn] at hp; cases hp
/-- two lists that pick alike -/
theorem path_same {hs hs' : List Hd} (hpk : ∀ v, pick hs v = pick hs' v) {v0 v : Vec} {O : List Hd} (h : Path hs v0 O v) : Path hs' v0 O v := by
  induction h with
  | nil => exact .nil
  | snoc _ hp hc ih => exact .snoc ih (by rw [← hpk]; exact hp) hc
theorem path_det_aux {hs : List Hd} {v0 : Vec} : ∀ (n : Nat) {v v' : Vec} {O O' : List Hd}, O.length = n → Path hs v0 O v → Path hs v0 O' v' → O.length ≤ O'.length →
    ∃ R, O'.length = O.length + R ∧ (∀ i o o', i < O.length → O[i]? = some o → O'[i]? = some o' → core o = core o') ∧ (R = 0 → v = v') ∧ (0 < R → pick hs v ≠ none) := by
  intro n v v' O O' hn h h'
  induction h' generalizing n v O with
  | nil =>
    intro hl
    have : O = [] := List.eq_nil_of_length_eq_zero (by simpa using hl)
    subst this
    refine ⟨0, by simp, fun i o o' hi => by simp at hi, fun _ => ?_, fun h => by omega⟩
    exact path_end h
  | snoc hP hp hc ih =>
    rename_i O1 v2 h1 o1
    intro hl
    rw [List.length_append] at hl
    simp only [List.length_cons, List.length_nil] at hl
    by_cases hle : O.length ≤ O1.length
    · obtain ⟨R, h2, h3, h4, h5⟩ := ih n hn h hle
      refine ⟨R + 1, by rw [List.length_append]; simp; omega, fun i o o' hi ho ho' => ?_, fun h => by omega, fun _ => ?_⟩
      · rw [List.getElem?_append_left (by omega)] at ho'
        exact h3 i o o' hi ho ho'
      · by_cases hR : R = 0
        · rw [h4 hR, hp]; simp
        · exact h5 (by omega)
    · have hlen : O.length = O1.length + 1 := by omega
      cases h with
      | nil => simp at hlen
      | snoc hQ hq hd =>
        rename_i O2 v3 h2 o2
        have hl2 : O2.length = O1.length := by simpa using hlen
        obtain ⟨R, k2, k3, k4, k5⟩ := ih O2.length rfl hQ (by omega)
        have hR : R = 0 := by omega
        have hv := k4 hR
        subst hv
        rw [hq] at hp
        cases hp
        refine ⟨0, by simp; omega, fun i o o' hi ho ho' => ?_, fun _ => rfl, fun h => by omega⟩
        rcases Nat.lt_or_ge i O2.length with hlt | hge
        · rw [List.getElem?_append_left hlt] at ho
          rw [List.getElem?_append_left (by omega)] at ho'
          exact k3 i o o' hlt ho ho'
        · have hi1 : i = O2.length := by simp at hi; omega
          subst hi1
          simp at ho
          rw [hl2] at ho'
          simp at ho'
          subst ho; subst ho'
          rw [hd, hc]
theorem path_det {hs : List Hd} {v0 v v' : Vec} {O O' : List Hd} (h : Path hs v0 O v) (h' : Path hs v0 O' v') (hn : pick hs v = none) (hn' : pick hs v' = none) :
    v = v' ∧ O.length = O'.length ∧ ∀ (i : Nat) (o o' : Hd), O[i]? = some o → O'[i]? = some o' → core o = core o' := by
  have key : ∀ {v v' : Vec} {O O' : List Hd}, Path hs v0 O v → Path hs v0 O' v' → pick hs v = none → O.length ≤ O'.length → v = v' ∧ O.length = O'.length ∧ ∀ (i : Nat) (o o' : Hd), O[i]? = some o → O'[i]? = some o' → core o = core o' := by
    intro v v' O O' h h' hn hl
    obtain ⟨R, h1, h2, h3, h4⟩ := path_det_aux O.length rfl h h' hl
    have hR : R = 0 := by
      rcases Nat.eq_zero_or_pos R with h | h
      · exact h
      · exact absurd hn (h4 h)
    exact ⟨h3 hR, by omega, fun i o o' ho ho' => h2 i o o' (List.getElem?_eq_some_iff.1 ho).1 ho ho'⟩
  rcases Nat.le_total O.length O'.length with hl | hl
  · exact key h h' hn hl
  · obtain ⟨h1, h2, h3⟩ := key h' h hn' hl
    exact ⟨h1.symm, h2.symm, fun i o o' ho ho' => (h3 i o' o ho' ho).symm⟩
end Go.Proofs.Ytkdbjhlkahkobaa
