/- a row more -/
import Derived.Test.YtkdbjhlkahkobaaYf
/- a row more: plain laws -/
namespace Go.Proofs.Ytkdbjhlkahkobaa
open Jal Go.RowKit
set_option maxRecDepth 100000
theorem cmpI_cases (a b : Int) : (a < b ∧ cmpI a b = -1) ∨ (a = b ∧ cmpI a b = 0) ∨ (a > b ∧ cmpI a b = 1) := by
  unfold cmpI
  simp only [cond_eq_ite, decide_eq_true_eq]
  by_cases h1 : a < b
  · exact .inl ⟨h1, by simp [h1]⟩
  · by_cases h2 : a > b
    · exact .inr (.inr ⟨h2, by simp [h1, h2]⟩)
    · exact .inr (.inl ⟨by omega, by simp [h1, h2]⟩)
def gtH (a b : Hd) : Prop := a.time > b.time ∨ a.time = b.time ∧ (a.writer > b.writer ∨ a.writer = b.writer ∧ a.seq > b.seq)
theorem cmpH_gt (a b : Hd) : cmpH a b > 0 ↔ gtH a b := by
  unfold cmpH gtH or3
  rcases cmpI_cases a.time b.time with ⟨h1, e1⟩ | ⟨h1, e1⟩ | ⟨h1, e1⟩ <;> rcases cmpI_cases a.writer b.writer with ⟨h2, e2⟩ | ⟨h2, e2⟩ | ⟨h2, e2⟩ <;>
    rcases cmpI_cases a.seq b.seq with ⟨h3, e3⟩ | ⟨h3, e3⟩ | ⟨h3, e3⟩ <;> simp [e1, e2, e3] <;> omega
/-- the greatest is not exceeded -/
theorem maxL_ge : ∀ (l : List Rw) (m : Rw), ¬ gtH m.hd (maxL m l).hd ∧ ∀ r ∈ l, ¬ gtH r.hd (maxL m l).hd
  | [], m => ⟨by show ¬ gtH m.hd m.hd; unfold gtH; omega, fun r h => absurd h (by simp)⟩
  | x :: l, m => by
    have e : maxL m (x :: l) = maxL (bif decide (cmpH x.hd m.hd > 0) then x else m) l := rfl
    rw [e]
    cases hd : decide (cmpH x.hd m.hd > 0) with
    | true =>
      have h1 := (cmpH_gt _ _).1 (of_decide_eq_true hd)
      obtain ⟨h2, h3⟩ := maxL_ge l x
      refine ⟨fun h => ?_, fun r hr => ?_⟩
      · apply h2; unfold gtH at *
        have h' : gtH m.hd (maxL x l).hd := h
        unfold gtH at h'
        omega
      · rcases List.mem_cons.1 hr with rfl | hr
        · exact h2
        · exact h3 r hr
    | false =>
      have h1 : ¬ gtH x.hd m.hd := fun h => (of_decide_eq_false hd) ((cmpH_gt _ _).2 h)
      obtain ⟨h2, h3⟩ := maxL_ge l m
      refine ⟨h2, fun r hr => ?_⟩
      rcases List.mem_cons.1 hr with rfl | hr
      · intro h
        have h' : gtH r.hd (maxL m l).hd := h
        unfold gtH at *
        omega
      · exact h3 r hr
theorem maxT_all {F : List Rw} (h : 0 < F.length) : maxT F (F.length - 1) = maxL (F.getD 0 rz) (F.drop 1) := by
  unfold maxT
  rw [List.take_of_length_le (by rw [List.length_drop]; exact Nat.le_refl _)]
theorem maxT_snoc {F : List Rw} {x : Rw} (h : 0 < F.length) : maxT (F ++ [x]) F.length = bif decide (cmpH x.hd (maxT F (F.length - 1)).hd > 0) then x else maxT F (F.length - 1) := by
  obtain ⟨y, F', rfl⟩ : ∃ y F', F = y :: F' := by cases F with | nil => simp at h | cons y F' => exact ⟨y, F', rfl⟩
  have h1 := maxT_all (F := (y :: F') ++ [x]) (by simp)
  have h2 := maxT_all (F := y :: F') (by simp)
  rw [show ((y :: F') ++ [x]).length - 1 = (y :: F').length by simp] at h1
  rw [h1, h2]
  show maxL y (F' ++ [x]) = bif decide (cmpH x.hd (maxL y F').hd > 0) then x else maxL y F'
  unfold maxL
  rw [List.foldl_append]; rfl
theorem lat_snoc (q : Rw → Bool) (L : List Rw) (x : Rw) : latR q (L ++ [x]) = bif q x then (bif (latR q L).2 then (bif decide (cmpH x.hd (latR q L).1.hd > 0) then x else (latR q L).1) else x, true) else latR q L := by
  unfold latR
  rw [List.filter_append]
  cases hq : q x with
  | false => rw [show [x].filter q = [] by simp [hq], List.append_nil]; rfl
  | true =>
    rw [show [x].filter q = [x] by simp [hq]]
    have e1 : decide ((((L.filter q) ++ [x]).length : Int) = 0) = false := by rw [List.length_append]; simp; omega
    rw [e1]
    have e3 : ((L.filter q) ++ [x]).length - 1 = (L.filter q).length := by simp
    rw [e3]
    cases hd : decide (((L.filter q).length : Int) = 0) with
    | true =>
      have h0 : L.filter q = [] := List.eq_nil_of_length_eq_zero (by have := of_decide_eq_true hd; omega)
      rw [h0]; rfl
    | false =>
      have h0 : 0 < (L.filter q).length := by have := of_decide_eq_false hd; omega
      rw [maxT_snoc h0]; rfl
theorem lat_ge (q : Rw → Bool) (L : List Rw) (r : Rw) (hr : r ∈ L) (hq : q r = true) : (latR q L).2 = true ∧ ¬ gtH r.hd (latR q L).1.hd := by
  have hm : r ∈ L.filter q := List.mem_filter.2 ⟨hr, hq⟩
  have h0 : 0 < (L.filter q).length := List.length_pos_of_mem hm
  unfold latR
  rw [decide_eq_false (show ¬ ((L.filter q).length : Int) = 0 by omega)]
  refine ⟨rfl, ?_⟩
  show ¬ gtH r.hd (maxT (L.filter q) ((L.filter q).length - 1)).hd
  rw [maxT_all h0]
  obtain ⟨y, F', hF⟩ : ∃ y F', L.filter q = y :: F' := by cases h : L.filter q with | nil => rw [h] at h0; simp at h0 | cons y F' => exact ⟨y, F', rfl⟩
  rw [hF] at hm ⊢
  obtain ⟨h1, h2⟩ := maxL_ge F' y
  rcases List.mem_cons.1 hm with rfl | hm
  · exact h1
  · exact h2 r hm
theorem lat_in (q : Rw → Bool) (L : List Rw) (h : (latR q L).2 = true) : (latR q L).1 ∈ L ∧ q (latR q L).1 = true := by
  unfold latR at h ⊢
  cases hd : decide (((L.filter q).length : Int) = 0) with
  | true => rw [hd] at h; cases h
  | false =>
    have h0 : 0 < (L.filter q).length := by have := of_decide_eq_false hd; omega
    exact List.mem_filter.1 (maxT_mem (i := (L.filter q).length - 1) h0)
/-- later than the latest of all: later than that of some -/
theorem lat_later (q : Rw → Bool) (L : List Rw) (x : Rw) (h : (latR anyR L).2 = false ∨ laterH x.hd (latR anyR L).1.hd = true) (hq : q x = true) : latR q (L ++ [x]) = (x, true) := by
  rw [lat_snoc, hq]
  cases h2 : (latR q L).2 with
  | false => rfl
  | true =>
    obtain ⟨h3, h4⟩ := lat_in q L h2
    obtain ⟨h5, h6⟩ := lat_ge anyR L _ h3 rfl
    rcases h with h | h
    · rw [h5] at h; cases h
    · have h7 := (cmpH_gt _ _).1 (of_decide_eq_true h)
      have : decide (cmpH x.hd (latR q L).1.hd > 0) = true := decide_eq_true ((cmpH_gt _ _).2 (by unfold gtH at *; omega))
      rw [this]; rfl
theorem lat_not (q : Rw → Bool) (L : List Rw) (x : Rw) (hq : q x = false) : latR q (L ++ [x]) = latR q L := by rw [lat_snoc, hq]; rfl
theorem made_f (tok : Nat → Int) (L : List Rw) : (madeI tok L).hd = (latR anyR L).1.hd ∧ (madeI tok L).known = (latR anyR L).1.known ∧ (madeI tok L).alive = ((latR valuedR L).2 && decide ((latR valuedR L).1.ch.op = 1)) ∧
    (madeI tok L).name = (latR knownR L).1.ch.name ∧ (madeI tok L).value = bif ((latR valuedR L).2 && decide ((latR valuedR L).1.ch.op = 1)) then (latR valuedR L).1.ch.value else ByteArray.empty := by
  unfold madeI
  cases (latR valuedR L).2 && decide ((latR valuedR L).1.ch.op = 1) <;> exact ⟨rfl, rfl, rfl, rfl, rfl⟩
end Go.Proofs.Ytkdbjhlkahkobaa
/- a row more at the end -/
namespace Go.Proofs.Ytkdbjhlkahkobaa
open Jal Go.RowKit
set_option maxRecDepth 100000
def lx (l : Nat → Rw) (n : Nat) (x : Rw) (i : Nat) : Rw := if i < n then l i else x
theorem lx_lt {l : Nat → Rw} {n i : Nat} {x : Rw} (h : i < n) : lx l n x i = l i := if_pos h
theorem lx_n (l : Nat → Rw) (n : Nat) (x : Rw) : lx l n x n = x := if_neg (Nat.lt_irrefl n)
theorem lx_all {Pr : Rw → Prop} {l : Nat → Rw} {n : Nat} {x : Rw} (h : ∀ i, i < n → Pr (l i)) (hx : Pr x) : ∀ i, i < n + 1 → Pr (lx l n x i) := fun i hi => by
  by_cases h1 : i < n
  · rw [lx_lt h1]; exact h i h1
  · obtain rfl : i = n := by omega
    rw [lx_n]; exact hx
theorem rowsL_lx (l : Nat → Rw) (n : Nat) (x : Rw) : rowsL (lx l n x) (n + 1) = rowsL l n ++ [x] := by
  rw [rowsL_succ, lx_n]
  congr 1
  exact List.map_congr_left fun i hi => lx_lt (List.mem_range.1 hi)
theorem fewRow_le {r : Rw} (h : fewRow r = true) : r.hd.tn ≤ 20 ∧ r.ch.gn ≤ 20 := by
  unfold fewRow bigR at h
  simp only [Bool.and_eq_true, Bool.not_eq_true', Bool.or_eq_false_iff, decide_eq_false_iff_not] at h
  obtain ⟨⟨⟨⟨h1, h2⟩, _⟩, _⟩, _⟩ := h
  omega
theorem fewR_row {l : Nat → Rw} {n : Nat} {k : Int} (h : fewR l n k = true) (hk : k ≤ 100) : (n : Int) ≤ k ∧ ∀ i, i < n → fewRow (l i) = true := by
  unfold fewR at h
  rw [Bool.and_eq_true, decide_eq_true_eq] at h
  refine ⟨h.2, fun i hi => ?_⟩
  exact List.all_eq_true.1 h.1 i (List.mem_range.2 (by omega))
end Go.Proofs.Ytkdbjhlkahkobaa
/- a row more: what it changes -/
namespace Go.Proofs.Ytkdbjhlkahkobaa
open Jal Go.RowKit
set_option maxRecDepth 100000
theorem counted_lx (l : Nat → Rw) (n : Nat) (x : Rw) : counted (lx l n x) n = counted l n := by
  unfold counted
  congr 1
  exact List.map_congr_left fun i hi => lx_lt (List.mem_range.1 hi)
theorem more_rows {l : Nat → Rw} {n : Nat} {x : Rw} (hkey : ∀ j, j < n → (decide ((l j).hd.writer = x.hd.writer) && decide ((l j).hd.seq = x.hd.seq)) = false) (hf : formedR x = true) :
    ofRows x.hd.item (counted (lx l n x) (n + 1)) = ofRows x.hd.item (counted l n) ++ [x] := by
  have hns : seenR (counted l n) x = false := by
    unfold seenR
    rw [List.any_eq_false]
    intro s hs
    obtain ⟨j, hj, rfl, _⟩ := cnt_mem l n s hs
    have h1 := hkey j hj
    unfold eq140 keyR
    intro h2
    simp only [Bool.and_eq_true, decide_eq_true_eq] at h2
    rw [decide_eq_true h2.1.symm, decide_eq_true h2.2.symm] at h1
    cases h1
  rw [counted_succ, counted_lx, lx_n]
  unfold cntStep
  rw [hf, hns]
  show ofRows x.hd.item (counted l n ++ [x]) = _
  unfold ofRows
  rw [List.filter_append]
  congr 1
  rw [List.filter_cons, eqA_refl]; rfl
theorem any_2 (L : List Rw) : (latR anyR L).2 = !decide ((L.length : Int) = 0) := by
  unfold latR
  rw [show L.filter anyR = L from List.filter_eq_self.2 (fun _ _ => rfl)]
  cases decide ((L.length : Int) = 0) <;> rfl
theorem emptyB_list {s : ByteArray} (h : emptyB s = true) : ByteArray.empty.toList = s.toList := by
  unfold emptyB at h
  exact (eq_of_beq h).symm
structure MoreF (a b : It × Bool) (x : Rw) : Prop where
  has : b.2 = true
  old : a.2 = true → laterH x.hd a.1.hd = false → b.1.hd = a.1.hd ∧ b.1.known = a.1.known
  new : (a.2 && !laterH x.hd a.1.hd) = false → b.1.hd = x.hd ∧ b.1.known = x.known
  blank : (a.2 && !laterH x.hd a.1.hd) = false → x.known = false → b.1.alive = a.1.alive ∧ b.1.value = a.1.value
  tags : (a.2 && !laterH x.hd a.1.hd) = false → x.known = true → x.ch.op = 3 → b.1.alive = a.1.alive ∧ b.1.name = x.ch.name
  life : (a.2 && !laterH x.hd a.1.hd) = false → x.known = true → x.ch.op ≠ 3 → b.1.alive = decide (x.ch.op = 1) ∧ b.1.value.toList = x.ch.value.toList ∧ b.1.name = x.ch.name
theorem more_facts {l : Nat → Rw} {n : Nat} {x : Rw} (hkey : ∀ j, j < n → (decide ((l j).hd.writer = x.hd.writer) && decide ((l j).hd.seq = x.hd.seq)) = false) (kx : RwOk x) (hf : rformedR x = true) :
    MoreF (ofI x.hd.item l n) (ofI x.hd.item (lx l n x) (n + 1)) x := by
  have hf2 : formedR x = true := by rw [← rformedR_eq kx]; exact hf
  have hr := more_rows hkey hf2
  obtain ⟨L, hL⟩ : ∃ L, L = ofRows x.hd.item (counted l n) := ⟨_, rfl⟩
  have hb : ofI x.hd.item (lx l n x) (n + 1) = (madeI x.hd.item (L ++ [x]), true) := by
    unfold ofI
    rw [hr, ← hL, decide_eq_false (by rw [List.length_append]; simp; omega)]; rfl
  have ha2 : (ofI x.hd.item l n).2 = (latR anyR L).2 := by
    rw [any_2]
    unfold ofI
    rw [← hL]
    cases decide ((L.length : Int) = 0) <;> rfl
  have hz : L = [] → (ofI x.hd.item l n).1 = iz := fun h => by
    unfold ofI
    rw [← hL, h]; rfl
  have ha1 : (latR anyR L).2 = true → (ofI x.hd.item l n).1 = madeI x.hd.item L := fun h => by
    rw [any_2] at h
    unfold ofI
    rw [← hL]
    cases hd : decide ((L.length : Int) = 0) with
    | true => rw [hd] at h; cases h
    | false => rfl
  have hnil : (latR anyR L).2 = false → L = [] := fun h => by
    rw [any_2] at h
    cases hd : decide ((L.length : Int) = 0) with
    | true => exact List.eq_nil_of_length_eq_zero (by have := of_decide_eq_true hd; omega)
    | false => rw [hd] at h; cases h
  obtain ⟨f1, f2, f3, f4, f5⟩ := made_f x.hd.item (L ++ [x])
  obtain ⟨g1, g2, g3, g4, g5⟩ := made_f x.hd.item L
  have hal : (ofI x.hd.item l n).1.alive = ((latR valuedR L).2 && decide ((latR valuedR L).1.ch.op = 1)) := by
    cases h : (latR anyR L).2 with
    | true => rw [ha1 h, g3]
    | false => rw [hz (hnil h), hnil h]; rfl
  have hva : (ofI x.hd.item l n).1.value = bif ((latR valuedR L).2 && decide ((latR valuedR L).1.ch.op = 1)) then (latR valuedR L).1.ch.value else ByteArray.empty := by
    cases h : (latR anyR L).2 with
    | true => rw [ha1 h, g5]
    | false => rw [hz (hnil h), hnil h]; rfl
  have hlt : ((ofI x.hd.item l n).2 && !laterH x.hd (ofI x.hd.item l n).1.hd) = false → (latR anyR L).2 = false ∨ laterH x.hd (latR anyR L).1.hd = true := fun h => by
    rw [ha2] at h
    cases h2 : (latR anyR L).2 with
    | false => exact .inl rfl
    | true =>
      rw [h2, ha1 h2, g1] at h
      exact .inr (by simpa using h)
  refine ⟨by rw [hb], fun h1 h2 => ?_, fun h => ?_, fun h hk => ?_, fun h hk ho => ?_, fun h hk ho => ?_⟩
  · rw [ha2] at h1
    have e := ha1 h1
    rw [e] at h2 ⊢
    rw [g1] at h2
    rw [hb]
    show (madeI x.hd.item (L ++ [x])).hd = _ ∧ (madeI x.hd.item (L ++ [x])).known = _
    rw [f1, f2, g1, g2]
    have : latR anyR (L ++ [x]) = ((latR anyR L).1, true) := by
      rw [lat_snoc, h1]
      show (bif decide (cmpH x.hd (latR anyR L).1.hd > 0) then x else (latR anyR L).1, true) = _
      rw [show decide (cmpH x.hd (latR anyR L).1.hd > 0) = false from h2]; rfl
    rw [this]
    exact ⟨rfl, rfl⟩
  · rw [hb]
    show (madeI x.hd.item (L ++ [x])).hd = _ ∧ (madeI x.hd.item (L ++ [x])).known = _
    rw [f1, f2, lat_later anyR L x (hlt h) rfl]
    exact ⟨rfl, rfl⟩
  · rw [hb, hal, hva]
    show (madeI x.hd.item (L ++ [x])).alive = _ ∧ (madeI x.hd.item (L ++ [x])).value = _
    rw [f3, f5, lat_not valuedR L x (by unfold valuedR; rw [hk]; rfl)]
    exact ⟨rfl, rfl⟩
  · rw [hb, hal]
    show (madeI x.hd.item (L ++ [x])).alive = _ ∧ (madeI x.hd.item (L ++ [x])).name = _
    rw [f3, f4, lat_not valuedR L x (by unfold valuedR; rw [hk, ho]; rfl), lat_later knownR L x (hlt h) hk]
    exact ⟨rfl, rfl⟩
  · rw [hb]
    show (madeI x.hd.item (L ++ [x])).alive = _ ∧ (madeI x.hd.item (L ++ [x])).value.toList = _ ∧ (madeI x.hd.item (L ++ [x])).name = _
    rw [f3, f4, f5, lat_later valuedR L x (hlt h) (by unfold valuedR; rw [hk, decide_eq_true ho]; rfl), lat_later knownR L x (hlt h) hk]
    refine ⟨Bool.true_and _, ?_, rfl⟩
    show (bif (true && decide (x.ch.op = 1)) then x.ch.value else ByteArray.empty).toList = _
    by_cases h1 : x.ch.op = 1
    · rw [decide_eq_true h1]; rfl
    · rw [decide_eq_false h1]
      show ByteArray.empty.toList = _
      apply emptyB_list
      unfold rformedR at hf
      rw [hk] at hf
      cases hh : !rformedH x.hd || x.hd.control with
      | true => rw [hh] at hf; cases hf
      | false =>
        rw [hh] at hf
        have h3 : rfchB x.ch = true := hf
        unfold rfchB at h3
        cases h4 : rchB x.ch with
        | true => rw [h4] at h3; cases h3
        | false =>
          unfold rchB at h4
          rw [Bool.or_eq_false_iff] at h4
          have h5 := h4.2
          rw [decide_eq_true h1] at h5
          simpa using h5
end Go.Proofs.Ytkdbjhlkahkobaa
