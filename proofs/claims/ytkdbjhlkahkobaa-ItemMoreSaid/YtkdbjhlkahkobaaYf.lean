/- walks, printed by a program of ours -/
import Derived.Test.YtkdbjhlkahkobaaTy
import Derived.Test.YtkdbjhlkahkobaaDef
import Derived.Test.YtkdbjhlkahkobaaYe
namespace Go.Proofs.Ytkdbjhlkahkobaa
open Jal Go.RowKit
set_option maxRecDepth 100000
theorem mem_part {w : World} {b o : Nat} {cs : List Value} (i m : Nat) (h : Mem w ⟨b, o, none⟩ cs) : Mem w ⟨b, o + i, none⟩ ((cs.drop i).take m) := fun j v hv => by
  have h1 : cs[i + j]? = some v := by
    rw [List.getElem?_take] at hv
    split at hv
    · rwa [List.getElem?_drop] at hv
    · cases hv
  have h2 := h (i + j) v h1
  rw [Addr.add_off] at h2 ⊢
  rw [Nat.add_assoc]; exact h2
def bigR (r : Rw) : Bool := ((decide ((r.hd.tn : Int) > 20) || decide ((r.ch.gn : Int) > 20)) || decide ((r.ch.name.size : Int) > 100)) || decide ((r.ch.value.size : Int) > 700)
def fewRow (r : Rw) : Bool := !bigR r && (List.range r.ch.gn).all fun j => !decide (((r.ch.tag j).size : Int) > 100)
def fewRs (l : Nat → Rw) (n : Nat) : Bool := (List.range (min n 100)).all fun i => fewRow (l i)
def fewR (l : Nat → Rw) (n : Nat) (k : Int) : Bool := fewRs l n && decide ((n : Int) ≤ k)
theorem fewRow_big {r : Rw} (h : bigR r = true) : fewRow r = false := by unfold fewRow; rw [h]; rfl
theorem fewRow_tag {r : Rw} {j : Nat} (hj : j < r.ch.gn) (h : decide (((r.ch.tag j).size : Int) > 100) = true) : fewRow r = false := by
  unfold fewRow
  have : ((List.range r.ch.gn).all fun j => !decide (((r.ch.tag j).size : Int) > 100)) = false := by
    rw [List.all_eq_false]
    exact ⟨j, List.mem_range.2 hj, by rw [h]; simp⟩
  rw [this, Bool.and_false]
theorem fewRow_yes {r : Rw} (h : bigR r = false) (ht : ∀ j, j < r.ch.gn → ¬ ((r.ch.tag j).size : Int) > 100) : fewRow r = true := by
  unfold fewRow
  rw [h]
  exact List.all_eq_true.2 fun j hj => by
    have := ht j (List.mem_range.1 hj)
    simp; omega
theorem fewRs_no {l : Nat → Rw} {n i : Nat} (hi : i < n) (h1 : i < 100) (h : fewRow (l i) = false) : fewRs l n = false := by
  unfold fewRs
  rw [List.all_eq_false]
  exact ⟨i, List.mem_range.2 (by omega), by rw [h]; simp⟩
theorem fewRs_yes {l : Nat → Rw} {n : Nat} (h : ∀ i, i < n → i < 100 → fewRow (l i) = true) : fewRs l n = true :=
  List.all_eq_true.2 fun i hi => by
    have := List.mem_range.1 hi
    exact h i (by omega) (by omega)

set_option maxHeartbeats 1000000 in
theorem fewrows_calls (w : World) (p : Option Addr) (n c : Nat) (l : Nat → Rw) (k : Int) (hn : (n : Int) ≤ 9223372036854775807) (hl : Sl w p n 130 (fun i => encR (l i))) (hx : ∀ i, i < n → RwIn w (l i)) (kx : ∀ i, i < n → RwOk (l i)) : Calls Try.prog 48 #[.slice p n c, .int .i64 k] w (Ret (.bool (fewR l n k)) w) := by
  refine fn_calls (n := 67) Try.func48 rfl rfl (lb rfl) ?_
  refine cseq ?_
  refine creg ?_
  refine l1 (asgb rfl) ?_
  refine lnil ?_
  refine nthen ?_
  refine cseq ?_
  refine cseq ?_
  refine creg ?_
  refine l1 (asgi rfl) ?_
  refine lnil ?_
  refine nthen ?_
  refine cblock ?_
  refine cloopI (σ := Nat) (fun s => [(0, .slice p n c), (1, .int .i64 k), (5, .int .i64 (s : Int))]) (fun s => []) (fun s => s ≤ n ∧ s ≤ 100 ∧ ∀ j, j < s → fewRow (l j) = true) (fun s => n + 1 - s) 0 ⟨Nat.zero_le _, by omega, fun j hj => by omega⟩ ⟨rfl, rfl, rfl, trivial⟩ (List.Sublist.refl _) ?_
  rintro i j hI
  show WC _ _ _ ([]) _ _ (over j [(0, .slice p n c), (1, .int .i64 k), (5, .int .i64 (i : Int))])
  replace hI : i ≤ n ∧ i ≤ 100 ∧ ∀ j, j < i → fewRow (l j) = true := hI
  refine cseq ?_
  refine cseq ?_
  refine creg ?_
  refine l1 (mvi rfl) ?_
  refine l1 (mvs rfl) ?_
  refine l1 (lens sl74 rfl rfl) ?_
  refine l1 (lss rfl rfl) ?_
  refine l1 (mvb rfl) ?_
  refine l1g rfl (gwt rfl) (fun h => mvi rfl) ?_
  refine l1g rfl (gwt rfl) (fun h => lss (gvt h) rfl) ?_
  refine l1 (pk_and rfl rfl rfl) ?_
  refine lnil ?_
  refine nthen ?_
  refine cif rfl (fun h1 => ?_) (fun h1 => ?_)
  · have hlt : i < n ∧ i < 100 := by (simp at h1; omega)
    obtain ⟨b, o, hp, hbl, hm⟩ := hl.at hlt.1
    have hgn := (kx i hlt.1).c.n
    refine cskip ?_
    refine nthen ?_
    refine cseq ?_
    refine cblock ?_
    refine cseq ?_
    refine creg ?_
    refine l1 (mvs rfl) ?_
    refine l1 (mvi rfl) ?_
    refine l1 (isp sl74 hp rfl rfl (by omega) (by omega)) ?_
    refine l1 (fa fa79_2 rfl) ?_
    refine l1 (ldam (vs := encCh (l i).ch) Try.isAgg77 Try.sizeOf77 rfl rfl (fun w' hw => mem_part 126 4 ((hm i hlt.1).kept hw.below hbl))) ?_
    refine lal (zs := encCh chz) Try.zeroValue77 rfl (fun b1 => ?_)
    refine lstw 0 rfl rfl rfl Try.sizeOf77 rfl rfl rfl ?_
    refine lnil ?_
    refine nthen ?_
    refine cseq ?_
    refine cseq ?_
    refine creg ?_
    refine l1 (mvs rfl) ?_
    refine l1 (mvi rfl) ?_
    refine l1 (isp sl74 hp rfl rfl (by omega) (by omega)) ?_
    refine l1 (fa fa79_0 rfl) ?_
    refine l1 (fa fa37_7 rfl) ?_
    refine l1 (ldm (v := .slice (l i).hd.tp (l i).hd.tn (l i).hd.tc) Try.isAgg35 rfl (fun w' hw => ((hm i hlt.1).kept hw.below hbl).at (i := 53) rfl)) ?_
    refine l1 (lens sl35 rfl rfl) ?_
    refine l1 (gtr rfl rfl) ?_
    refine l1 (mvb rfl) ?_
    refine l1g rfl (gwf rfl) (fun h => fa fa77_2 rfl) ?_
    refine l1g rfl (gwf rfl) (fun h => ldc 0 Try.isAgg75 rfl (gvt h) rfl) ?_
    refine l1g rfl (gwf rfl) (fun h => lens sl75 rfl (gvt h)) ?_
    refine l1g rfl (gwf rfl) (fun h => gtr (gvt h) rfl) ?_
    refine l1 (pk_or rfl rfl rfl) ?_
    refine l1 (mvb rfl) ?_
    refine l1g rfl (gwf rfl) (fun h => fa fa77_1 rfl) ?_
    refine l1g rfl (gwf rfl) (fun h => ldc 0 Try.isAgg9 rfl (gvt h) rfl) ?_
    refine l1g rfl (gwf rfl) (fun h => lenstr Try.underlying9 rfl (gvt h)) ?_
    refine l1g rfl (gwf rfl) (fun h => gtr (gvt h) rfl) ?_
    refine l1 (pk_or rfl rfl rfl) ?_
    refine l1 (mvb rfl) ?_
    refine l1g rfl (gwf rfl) (fun h => fa fa77_3 rfl) ?_
    refine l1g rfl (gwf rfl) (fun h => ldc 0 Try.isAgg9 rfl (gvt h) rfl) ?_
    refine l1g rfl (gwf rfl) (fun h => lenstr Try.underlying9 rfl (gvt h)) ?_
    refine l1g rfl (gwf rfl) (fun h => gtr (gvt h) rfl) ?_
    refine l1 (pk_or rfl rfl rfl) ?_
    refine lnil ?_
    refine nthen ?_
    refine cif rfl (fun h2 => ?_) (fun h2 => ?_)
    · change bigR (l i) = _ at h2
      refine cseq ?_
      refine creg ?_
      refine l1 (asgb rfl) ?_
      refine lnil ?_
      refine nthen ?_
      refine cret ?_
      refine nthenR ?_
      refine nblkR ?_
      refine nthenR ?_
      refine nIR ?_
      refine nblkR ?_
      refine nthenR ?_
      exact fin1b rfl rfl (by rw [fewR, fewRs_no (by omega) (by omega) (fewRow_big h2)]; rfl)
    · change bigR (l i) = _ at h2
      refine cskip ?_
      refine nthen ?_
      refine cseq ?_
      refine creg ?_
      refine l1 (asgi rfl) ?_
      refine lnil ?_
      refine nthen ?_
      refine cblock ?_
      refine cloopI (σ := Nat) (fun s => [(0, .slice p n c), (1, .int .i64 k), (5, .int .i64 (i : Int)), (6, .pointer (some ⟨b1, 0, none⟩)), (7, .int .i64 (s : Int))]) (fun s => [⟨b1, encCh (l i).ch, 77⟩]) (fun s => s ≤ (l i).ch.gn ∧ ∀ k, k < s → ¬ (((l i).ch.tag k).size : Int) > 100) (fun s => (l i).ch.gn - s) 0 ⟨Nat.zero_le _, fun j hj => by omega⟩ ⟨rfl, rfl, rfl, rfl, rfl, trivial⟩ (List.Sublist.refl _) ?_
      rintro q j hJ
      show WC _ _ _ ([⟨b1, encCh (l i).ch, 77⟩]) _ _ (over j [(0, .slice p n c), (1, .int .i64 k), (5, .int .i64 (i : Int)), (6, .pointer (some ⟨b1, 0, none⟩)), (7, .int .i64 (q : Int))])
      replace hJ : q ≤ (l i).ch.gn ∧ ∀ k, k < q → ¬ (((l i).ch.tag k).size : Int) > 100 := hJ
      refine cseq ?_
      refine cseq ?_
      refine creg ?_
      refine l1 (mvi rfl) ?_
      refine l1 (fa fa77_2 rfl) ?_
      refine l1 (ldc 0 Try.isAgg75 rfl rfl rfl) ?_
      refine l1 (lens sl75 rfl rfl) ?_
      refine l1 (lss rfl rfl) ?_
      refine lnil ?_
      refine nthen ?_
      refine cif rfl (fun h3 => ?_) (fun h3 => ?_)
      · have hlq : q < (l i).ch.gn := by (have := dt h3; omega)
        obtain ⟨b2, o2, hp2, hbl2, hm2⟩ := (hx i hlt.1).c.at hlq
        refine cskip ?_
        refine nthen ?_
        refine cseq ?_
        refine cblock ?_
        refine cseq ?_
        refine creg ?_
        refine l1 (fa fa77_2 rfl) ?_
        refine l1 (ldc 0 Try.isAgg75 rfl rfl rfl) ?_
        refine l1 (mvi rfl) ?_
        refine l1 (isp sl75 hp2 rfl rfl (by omega) (by omega)) ?_
        refine l1 (ldm (v := .string ((l i).ch.tag q)) Try.isAgg9 rfl (fun w' hw => ((hm2 q hlq).kept hw.below hbl2).c0)) ?_
        refine l1 (lenstr Try.underlying9 rfl rfl) ?_
        refine l1 (gtr rfl rfl) ?_
        refine lnil ?_
        refine nthen ?_
        refine cif rfl (fun h4 => ?_) (fun h4 => ?_)
        · skip
          refine cseq ?_
          refine creg ?_
          refine l1 (asgb rfl) ?_
          refine lnil ?_
          refine nthen ?_
          refine cret ?_
          refine nblkR ?_
          refine nthenR ?_
          refine nIR ?_
          refine nblkR ?_
          refine nblkR ?_
          refine nthenR ?_
          refine nIR ?_
          refine nblkR ?_
          refine nthenR ?_
          exact fin1b rfl rfl (by rw [fewR, fewRs_no (i := i) (by omega) (by omega) (fewRow_tag hlq h4)]; rfl)
        · skip
          refine cskip ?_
          refine nblkN ?_
          refine nthen ?_
          refine creg ?_
          refine l1 (mvi rfl) ?_
          first | refine l1 (addn rfl rfl (ri (by omega) (by omega))) ?_ | refine l1 (add rfl rfl) ?_
          refine l1 (asgi rfl) ?_
          refine lnil ?_
          exact nI (q + 1) ⟨by omega, fun k hk => (Nat.lt_succ_iff_lt_or_eq.1 hk).elim (fun h => hJ.2 k h) (fun h => by subst h; exact df h4)⟩ (by show (l i).ch.gn - (q + 1) < (l i).ch.gn - q; omega) ⟨rfl, rfl, rfl, rfl, rfl, trivial⟩ (List.Sublist.refl _)
      · skip
        refine cexit ?_
        refine nthenE ?_
        refine nIE ?_
        refine nblkE ?_
        refine nblkN ?_
        refine nthen ?_
        refine creg ?_
        refine l1 (mvi rfl) ?_
        first | refine l1 (addn rfl rfl (ri (by omega) (by omega))) ?_ | refine l1 (add rfl rfl) ?_
        refine l1 (asgi rfl) ?_
        refine lnil ?_
        exact nI (i + 1) ⟨by omega, by omega, fun j hj => (Nat.lt_succ_iff_lt_or_eq.1 hj).elim (fun h => hI.2.2 j h) (fun h => by subst h; exact fewRow_yes h2 (fun k hk => hJ.2 k (by have := df h3; omega)))⟩ (by show n + 1 - (i + 1) < n + 1 - i; omega) ⟨rfl, rfl, rfl, trivial⟩ (List.Sublist.cons _ (List.Sublist.refl _))
  · have hge : ¬ (i < n ∧ i < 100) := by (intro hc; simp at h1; omega)
    refine cexit ?_
    refine nthenE ?_
    refine nIE ?_
    refine nblkE ?_
    refine nthen ?_
    refine cseq ?_
    refine creg ?_
    refine l1 (mvs rfl) ?_
    refine l1 (lens sl74 rfl rfl) ?_
    refine l1 (mvi rfl) ?_
    refine l1 (leq rfl rfl) ?_
    refine l1 (asgb rfl) ?_
    refine lnil ?_
    refine nthen ?_
    refine cret ?_
    exact fin1b rfl rfl (by rw [fewR, fewRs_yes (fun j hj h100 => hI.2.2 j (by omega))]; rfl)
end Go.Proofs.Ytkdbjhlkahkobaa
