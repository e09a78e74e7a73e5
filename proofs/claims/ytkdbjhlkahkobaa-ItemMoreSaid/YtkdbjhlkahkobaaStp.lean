/- what came, and how much more there is: plain laws; rows in blocks of our own, read -/
import Derived.Test.YtkdbjhlkahkobaaOrd2
namespace Go.Proofs.Ytkdbjhlkahkobaa
open Jal Go.RowKit
set_option maxRecDepth 100000
theorem SlIn_some {H : List Ent} {p : Option Addr} {n sz : Nat} {el : Nat → List Value} (h : SlIn H p n sz el) {i : Nat} (hi : i < n) : ∃ b, p = some ⟨b, 0, none⟩ := by
  rcases h with h | ⟨e, _, h, _⟩
  · omega
  · exact ⟨e.b, h⟩
theorem SlIn_mem {w0 w : World} {H : List Ent} {p : Option Addr} {n sz : Nat} {el : Nat → List Value} {b : Nat} (h : SlIn H p n sz el) (hp : p = some ⟨b, 0, none⟩) (hw : Sat w0 H w) {i : Nat} (hi : i < n) : Mem w ⟨b, 0 + i * sz, none⟩ (el i) := by
  rcases h with h | ⟨e, he, h1, h2⟩
  · omega
  · rw [hp] at h1
    simp only [Option.some.injEq, Addr.mk.injEq, and_true] at h1
    intro j v hv
    rw [Addr.add_off]
    simp only [World.cell?, h1, (hw.own e he).2]
    have := h2 i hi j v hv
    simpa [Nat.zero_add] using this
theorem ord_slIn {hs : List Hd} {v0 : Vec} {v : Vec} {O : List Hd} {p : Option Addr} {c : Nat} {oe tl : List Ent} (h : OrdOk hs v0 ⟨v, O, .slice p O.length c, oe, tl⟩) : SlIn oe p O.length 125 (fun i => encH (O.getD i hz)) :=
  h.own.slInL (fun a => rfl) (fun i hi => ⟨_, List.getElem?_eq_getElem hi, by rw [List.getD_eq_getElem?_getD, List.getElem?_eq_getElem hi]; rfl⟩)
theorem getD_get {O : List Hd} {i : Nat} (h : i < O.length) : O[i]? = some (O.getD i hz) := by
  rw [List.getD_eq_getElem?_getD, List.getElem?_eq_getElem h]; rfl
theorem getD_mem {O : List Hd} {i : Nat} (h : i < O.length) : O.getD i hz ∈ O := List.mem_of_getElem? (getD_get h)
theorem runV_take {v : Vec} {O : List Hd} {i : Nat} (h : i < O.length) : runV v (O.take (i + 1)) = putV (runV v (O.take i)) (O.getD i hz) := by
  rw [List.take_add_one, getD_get h]
  exact runV_snoc v _ _
theorem more_small {a b : Int} (h : 0 ≤ b - a) (h' : b - a ≤ 1000) : moreI a b = b - a := by
  unfold moreI
  by_cases hc : b > a
  · rw [decide_eq_true hc, ru (by omega) (by omega)]; simp only [cond_true]; omega
  · rw [decide_eq_false hc]; simp only [cond_false]; omega
def isum : Nat → (Nat → Int) → Int
  | 0, _ => 0
  | n + 1, f => isum n f + f n
theorem sumV_small (f : Nat → Int) : ∀ n, n ≤ 6 → (∀ i, i < n → 0 ≤ f i ∧ f i ≤ 1000) → sumV n f = isum n f ∧ 0 ≤ isum n f ∧ isum n f ≤ (n : Int) * 1000
  | 0, _, _ => ⟨rfl, by simp [isum], by simp [isum]⟩
  | n + 1, hn, h => by
    obtain ⟨h1, h2, h3⟩ := sumV_small f n (by omega) (fun i hi => h i (by omega))
    have h4 := h n (by omega)
    show addU (sumV n f) (f n) = isum n f + f n ∧ 0 ≤ isum n f + f n ∧ isum n f + f n ≤ _
    rw [h1, addU_small (by omega) (by omega)]
    exact ⟨rfl, by omega, by omega⟩
theorem isum_congr {f g : Nat → Int} : ∀ n, (∀ i, i < n → f i = g i) → isum n f = isum n g
  | 0, _ => rfl
  | n + 1, h => by
    show isum n f + f n = isum n g + g n
    rw [isum_congr n (fun i hi => h i (by omega)), h n (by omega)]
theorem path_grow {hs : List Hd} {v0 v : Vec} {O : List Hd} (h : Path hs v0 O v) : (∀ i, i < 6 → 0 ≤ v i - v0 i ∧ v i - v0 i ≤ O.length) ∧ isum 6 (fun i => v i - v0 i) = O.length := by
  induction h with
  | nil => refine ⟨fun i _ => ⟨by omega, by simp⟩, ?_⟩; simp [isum]
  | snoc hP hp hc ih =>
    rename_i O1 v' h1 o1
    obtain ⟨ih1, ih2⟩ := ih
    obtain ⟨_, hr, _⟩ := pick_spec hp
    obtain ⟨hf, hv⟩ := ready_formed hr
    have hw := formed_w hf
    rw [List.length_append]
    simp only [List.length_cons, List.length_nil]
    have hk6 : (h1.writer - 1).toNat < 6 := by omega
    have hput : ∀ i, putV v' h1 i = bif Nat.beq i (h1.writer - 1).toNat then h1.seq else v' i := fun i => rfl
    generalize (h1.writer - 1).toNat = k at *
    have g0 := ih1 0 (by omega)
    have g1 := ih1 1 (by omega)
    have g2 := ih1 2 (by omega)
    have g3 := ih1 3 (by omega)
    have g4 := ih1 4 (by omega)
    have g5 := ih1 5 (by omega)
    simp only [isum] at ih2 ⊢
    constructor
    · intro i hi
      rw [hput]
      have hi6 := ih1 i hi
      cases hb : Nat.beq i k with
      | false => simp only [cond_false]; omega
      | true =>
        have := Nat.eq_of_beq_eq_true hb
        subst this
        simp only [cond_true]; omega
    · rw [hput 0, hput 1, hput 2, hput 3, hput 4, hput 5]
      rcases six hk6 with rfl | rfl | rfl | rfl | rfl | rfl <;> simp only [Nat.beq, cond_true, cond_false] <;> omega
theorem path_great {hs : List Hd} {v0 v : Vec} {O : List Hd} (h : Path hs v0 O v) : greatV v v0 = true := great_iff.2 fun i hi => by have := (path_grow h).1 i hi; omega
theorem path_miss {hs : List Hd} {v0 v : Vec} {O : List Hd} (h : Path hs v0 O v) (hl : O.length ≤ 1000) : missV v0 v = O.length := by
  obtain ⟨h1, h2⟩ := path_grow h
  have h3 : ∀ i, i < 6 → eachV moreI v0 v i = v i - v0 i := fun i hi => more_small (h1 i hi).1 (by have := (h1 i hi).2; omega)
  unfold missV
  rw [(sumV_small _ 6 (by omega) (fun i hi => by rw [h3 i hi]; have := h1 i hi; omega)).1, isum_congr 6 h3, h2]
end Go.Proofs.Ytkdbjhlkahkobaa
