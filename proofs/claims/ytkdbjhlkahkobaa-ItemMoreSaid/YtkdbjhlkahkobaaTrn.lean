/- headers turned round: plain laws -/
import Derived.Test.YtkdbjhlkahkobaaStp
namespace Go.Proofs.Ytkdbjhlkahkobaa
open Jal Go.RowKit
set_option maxRecDepth 100000
theorem flat_set {α : Type} {f : α → List Value} {sz : Nat} (hf : ∀ a, (f a).length = sz) : ∀ (P : List α) (i : Nat) (x : α), i < P.length → (P.set i x).flatMap f = (P.flatMap f).take (i * sz) ++ f x ++ (P.flatMap f).drop (i * sz + sz)
  | [], _, _, h => by simp at h
  | a :: P, 0, x, _ => by
    have h1 : List.drop (0 * sz + sz) (f a ++ List.flatMap f P) = List.flatMap f P := by
      rw [Nat.zero_mul, Nat.zero_add, ← hf a]; exact List.drop_left
    rw [List.set_cons_zero, List.flatMap_cons, List.flatMap_cons, h1]
    simp
  | a :: P, i + 1, x, h => by
    have ih := flat_set hf P i x (by simpa using h)
    rw [List.set_cons_succ, List.flatMap_cons, List.flatMap_cons, ih]
    have h1 : List.take ((i + 1) * sz) (f a ++ List.flatMap f P) = f a ++ List.take (i * sz) (List.flatMap f P) := by
      rw [List.take_append, hf a, List.take_of_length_le (by rw [hf a, Nat.add_mul]; omega)]
      congr 2
      rw [Nat.add_mul]; omega
    have h2 : List.drop ((i + 1) * sz + sz) (f a ++ List.flatMap f P) = List.drop (i * sz + sz) (List.flatMap f P) := by
      rw [List.drop_append, hf a, List.drop_eq_nil_of_le (by rw [hf a, Nat.add_mul]; omega)]
      rw [List.nil_append]
      congr 1
      rw [Nat.add_mul]; omega
    rw [h1, h2]
    simp
theorem ownL_set {α : Type} {f : α → List Value} {e : TypeId} {sz : Nat} {g cap n : Nat} {cur : List Value} {P : List α} (hf : ∀ a, (f a).length = sz) (h : OwnL e sz (.slice (some ⟨g, 0, none⟩) n cap) n (P.flatMap f) [⟨g, cur, e⟩]) (hP : P.length = n) {i : Nat} (hi : i < n) (x : α) :
    OwnL e sz (.slice (some ⟨g, 0, none⟩) n cap) n ((P.set i x).flatMap f) [⟨g, cur.take (i * sz) ++ f x ++ cur.drop (i * sz + sz), e⟩] := by
  rcases h.2 with ⟨h1, _⟩ | ⟨g', cap', cur', h1, h2, h3, h4, h5, h6⟩
  · cases h1
  · cases h1; cases h2
    have hb : i * sz + sz ≤ n * sz := by have := Nat.mul_le_mul_right sz (show i + 1 ≤ n from hi); rwa [Nat.add_mul, Nat.one_mul] at this
    have hc : n * sz ≤ cap * sz := Nat.mul_le_mul_right sz h3
    refine ⟨by rw [flatM_len hf, List.length_set, hP], .inr ⟨g, cap, _, rfl, rfl, h3, h4, ?_, ?_⟩⟩
    · simp only [List.length_append, List.length_take, List.length_drop, hf, h5]; omega
    · rw [flat_set hf P i x (by omega), ← h6]
      rw [List.append_assoc, List.append_assoc, List.take_append, List.take_append, List.length_take, hf, List.take_take, List.take_take]
      have e1 : min (n * sz) (i * sz) = i * sz := by omega
      have e2 : min (i * sz) (n * sz) = i * sz := by omega
      have e3 : min (i * sz) cur.length = i * sz := by omega
      rw [e1, e2, e3, List.take_of_length_le (l := f x) (by rw [hf]; omega), List.drop_take]
      congr 3
      omega
theorem ownL_form {α : Type} {f : α → List Value} {e : TypeId} {sz n : Nat} {p : Option Addr} {c : Nat} {P : List α} {oe : List Ent} (h : OwnL e sz (.slice p n c) n (P.flatMap f) oe) (hn : 0 < n) : ∃ g cur, p = some ⟨g, 0, none⟩ ∧ oe = [⟨g, cur, e⟩] ∧ n * sz ≤ cur.length := by
  rcases h.2 with ⟨_, h0, _⟩ | ⟨g, cap, cur, h1, h2, h3, h4, h5, h6⟩
  · omega
  · cases h1
    exact ⟨g, cur, rfl, h2, by rw [h5]; exact Nat.mul_le_mul_right sz h3⟩
theorem swap_perm {α : Type} (d : α) : ∀ (P : List α) (i : Nat), i + 1 < P.length → ((P.set i (P.getD (i + 1) d)).set (i + 1) (P.getD i d)).Perm P
  | [], _, h => by simp at h
  | [a], _, h => by simp at h
  | a :: b :: t, 0, _ => by simpa using List.Perm.swap a b t
  | a :: b :: t, i + 1, h => by
    have ih := swap_perm d (b :: t) i (by simpa using h)
    simpa using List.Perm.cons a ih
theorem turn_perm (n a : Nat) : ((List.range n).map (fun i => (i + a) % n)).Perm (List.range n) := by
  have e : (List.range n).map (fun i => (i + a) % n) = (List.range n).drop (a % n) ++ (List.range n).take (a % n) := by
    apply List.ext_getElem?
    intro i
    rcases Nat.eq_zero_or_pos n with h0 | h0
    · subst h0; simp
    have hm : a % n < n := Nat.mod_lt _ h0
    have hma : (i + a) % n = (i + a % n) % n := by rw [Nat.add_mod, Nat.add_mod i (a % n), Nat.mod_mod]
    rw [List.getElem?_map, List.getElem?_append]
    simp only [List.length_drop, List.length_range, List.getElem?_drop, List.getElem?_take]
    by_cases hi : i < n
    · rw [List.getElem?_range hi]
      by_cases h1 : i < n - a % n
      · rw [if_pos h1, List.getElem?_range (by omega)]
        simp only [Option.map_some, hma]
        rw [Nat.mod_eq_of_lt (by omega), Nat.add_comm]
      · rw [if_neg h1, if_pos (by omega), List.getElem?_range (by omega)]
        simp only [Option.map_some, hma]
        have : (i + a % n) % n = i + a % n - n := by rw [Nat.mod_eq_sub_mod (by omega), Nat.mod_eq_of_lt (by omega)]
        rw [this]; congr 1; omega
    · rw [List.getElem?_eq_none (by simpa using hi)]
      rw [if_neg (by omega)]
      split
      · rw [List.getElem?_eq_none (by simp; omega)]; rfl
      · rfl
  rw [e]
  have := List.perm_append_comm (l₁ := (List.range n).drop (a % n)) (l₂ := (List.range n).take (a % n))
  rwa [List.take_append_drop] at this
def Uniq (hs : List Hd) : Prop := ∀ x ∈ hs, ∀ y ∈ hs, x.writer = y.writer → x.seq = y.seq → x = y
theorem uniq_of {n : Nat} {l : Nat → Hd} (h : ∀ a, a < n → ∀ b, b < a → ¬ ((l a).writer = (l b).writer ∧ (l a).seq = (l b).seq)) : Uniq ((List.range n).map l) := by
  intro x hx y hy h1 h2
  obtain ⟨a, ha, rfl⟩ := List.mem_map.1 hx
  obtain ⟨b, hb, rfl⟩ := List.mem_map.1 hy
  have ha := List.mem_range.1 ha
  have hb := List.mem_range.1 hb
  rcases Nat.lt_trichotomy a b with hab | hab | hab
  · exact absurd ⟨h1.symm, h2.symm⟩ (h b hb a hab)
  · rw [hab]
  · exact absurd ⟨h1, h2⟩ (h a ha b hab)
theorem pick_perm {hs P : List Hd} (hp : P.Perm hs) (hu : Uniq hs) (v : Vec) : pick hs v = pick P v := by
  have hfp := hp.filter (readyH v)
  cases h1 : pick hs v with
  | none =>
    have := pick_none.1 h1
    rw [this] at hfp
    exact (pick_none.2 hfp.eq_nil).symm
  | some h =>
    cases h2 : pick P v with
    | none =>
      have := pick_none.1 h2
      rw [this] at hfp
      have h3 := pick_none.2 (List.Perm.eq_nil hfp.symm)
      rw [h3] at h1; cases h1
    | some h' =>
      obtain ⟨a1, a2, a3⟩ := pick_spec h1
      obtain ⟨b1, b2, b3⟩ := pick_spec h2
      have c1 := a3 h' (hp.mem_iff.1 b1) b2
      have c2 := b3 h (hp.mem_iff.2 a1) a2
      rw [first_iff] at c1 c2
      have hw : h.writer = h'.writer := by omega
      have hv := (ready_formed a2).2
      have hv' := (ready_formed b2).2
      rw [hw, hv'] at hv
      rw [hu h a1 h' (hp.mem_iff.1 b1) hw (by omega)]
theorem map_getD (P : List Hd) : (List.range P.length).map (fun i => P.getD i hz) = P := by
  apply List.ext_getElem?
  intro i
  rw [List.getElem?_map]
  by_cases hi : i < P.length
  · rw [List.getElem?_range hi, getD_get hi]; rfl
  · rw [List.getElem?_eq_none (by simpa using hi), List.getElem?_eq_none (by omega)]; rfl
end Go.Proofs.Ytkdbjhlkahkobaa
