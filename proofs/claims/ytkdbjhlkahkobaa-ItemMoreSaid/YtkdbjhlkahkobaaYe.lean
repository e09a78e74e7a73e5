/- walks, printed by a program of ours -/
import Derived.Test.YtkdbjhlkahkobaaTy
import Derived.Test.YtkdbjhlkahkobaaDef
import Derived.Test.YtkdbjhlkahkobaaYd
import Derived.Test.YtkdbjhlkahkobaaPrt
namespace Go.Proofs.Ytkdbjhlkahkobaa
open Jal Go.RowKit
set_option maxRecDepth 100000
theorem bk83z : ∀ w, (Instr.build 83 #[]).run Try.prog w = .ok (.agg (encI iz).toArray) w := fun w => by kernel_rfl

def PartF' (l : Nat → Rw) (n : Nat) (v : Value) (W : World) (Hn : List Ent) : Prop := ∃ r G, v = .map (some r) ∧ Hn = gh G ∧ r < W.heap.size ∧ W.heap[r]? = some (mob kv34 (gm G)) ∧ (∀ g ∈ G, GpOk g) ∧ pg G = partsOf (counted l n) ∧ (∀ g ∈ G, g.rows.length ≤ n)
theorem PartR.base' {w : World} {l : Nat → Rw} {n : Nat} {e : Ending} {w' : World} (h : PartR w l n e w') : BaseR (PartF' l n) w e w' := by
  obtain ⟨r, W, G, h1, h2, h3, h4, h5, h6, h7, h8, h9⟩ := h
  exact ⟨_, W, gh G, h1, h2, ⟨r, G, rfl, rfl, h4, h5, h6, h7, h8⟩, h9⟩
theorem of_none {tok : Nat → Int} {l : Nat → Rw} {n : Nat} (h : decide ((((ofRows tok (counted l n))).length : Int) = 0) = true) : ofI tok l n = (iz, false) := by unfold ofI; rw [h]; rfl
theorem of_some {tok : Nat → Int} {l : Nat → Rw} {n : Nat} (h : decide ((((ofRows tok (counted l n))).length : Int) = 0) = false) : ofI tok l n = (madeI tok (ofRows tok (counted l n)), true) := by unfold ofI; rw [h]; rfl
theorem ofRows_get {tok : Nat → Int} {l : Nat → Rw} {n i : Nat} (hi : i < ((ofRows tok (counted l n))).length) : ∃ j, j < n ∧ ((ofRows tok (counted l n))).getD i rz = l j := by
  have h1 : ((ofRows tok (counted l n))).getD i rz ∈ (ofRows tok (counted l n)) := by
    rw [List.getD_eq_getElem?_getD, List.getElem?_eq_getElem hi]; exact List.getElem_mem hi
  obtain ⟨j, h2, h3, _⟩ := cnt_mem l n _ (List.mem_filter.1 h1).1
  exact ⟨j, h2, h3⟩

set_option maxHeartbeats 2000000 in
theorem of_calls (w : World) (tok : Nat → Int) (p : Option Addr) (n c : Nat) (l : Nat → Rw) (hn : n ≤ 100) (hl : Sl w p n 130 (fun i => encR (l i))) (hx : ∀ i, i < n → RwIn w (l i)) (kx : ∀ i, i < n → RwOk (l i)) (fx : ∀ i, i < n → (l i).hd.tn ≤ 20 ∧ (l i).ch.gn ≤ 20) : Calls Try.prog 50 #[.slice p n c, .agg (arr .u8 16 tok).toArray] w (RetM (fun v Hn => ∃ I, v = .tuple #[.agg (encI I).toArray, .bool (ofI tok l n).2] ∧ coreI I = coreI (ofI tok l n).1 ∧ ItIn Hn I) w) := by
  refine fn_calls (n := 18) Try.func50 rfl rfl (lb rfl) ?_
  have hrx : ∀ i, i < (ofRows tok (counted l n)).length → RwIn w ((ofRows tok (counted l n)).getD i rz) := fun i hi => by obtain ⟨j, h1, h2⟩ := ofRows_get hi; rw [h2]; exact hx j h1
  have hrf : ∀ i, i < (ofRows tok (counted l n)).length → ((ofRows tok (counted l n)).getD i rz).hd.tn ≤ 20 ∧ ((ofRows tok (counted l n)).getD i rz).ch.gn ≤ 20 := fun i hi => by obtain ⟨j, h1, h2⟩ := ofRows_get hi; rw [h2]; exact fx j h1
  refine cseq ?_
  refine creg ?_
  refine lbxa rfl (fun b1 => ?_)
  refine lal (zs := encI iz) Try.zeroValue83 rfl (fun b2 => ?_)
  refine l1 (asgb rfl) ?_
  refine lnil ?_
  refine nthen ?_
  refine cseq ?_
  refine cregH (fun x : List Ent => ⟨b1, arr .u8 16 tok, 34⟩ :: ⟨b2, encI iz, 83⟩ :: x) 5 mo rfl ?_
  refine hq1 0 rfl (by kernel_rfl) (by kernel_rfl) (by kernel_rfl) (fun c a w h => h) (.inr ⟨_, rfl⟩) (fun w hw => ⟨[], hw⟩) (fun T => mvs rfl) ?_
  refine hq1 2 rfl (by kernel_rfl) (by kernel_rfl) (by kernel_rfl) (fun c a w h => h) (.inl ⟨_, rfl⟩) (fun w hw => ⟨[], hw⟩) (fun T => ldw 0 Try.isAgg34 Try.sizeOf34 rfl rfl rfl) ?_
  refine he 1 (by kernel_rfl) rfl ?_
  refine lclB hb86 rfl (mc rfl mn) (Φ := PartF' l n) (fun w' hw => (parted_calls w' p n c l hn (Sl.keptS hl hw) (fun i hi => (hx i hi).keptS hw) kx).mono (fun e w2 h => h.base')) ?_
  rintro v8 W H8 ⟨r, G, rfl, rfl, hlr, hor, hok, hpg, hlen⟩ hU
  obtain ⟨A, B, oe, v, hA, hfind, hown, hrl⟩ := grp_look tok n G hok hlen
  refine hnil (fun w hw => ⟨_, hU w hw⟩) ?_
  refine he 3 (by kernel_rfl) rfl ?_
  refine l1 (lkpv K34 (k := tok) (M := gm G) (z := znil) Try.underlying117 Try.zeroValue74 rfl rfl (fun w' hw => (hw.below.block r hlr).trans hor) (grp_val hfind)) ?_
  refine hnil (fun w hw => ⟨_, hU w hw⟩) ?_
  refine he 4 (by kernel_rfl) rfl ?_
  refine l1 (asg rfl) ?_
  refine hnil (fun w hw => ⟨_, hU w hw⟩) ?_
  refine hend (by kernel_rfl) ?_
  refine nq_imp hU ?_
  have hrows : lookP tok (pg G) = (ofRows tok (counted l n)) := by rw [hpg, lookP_parts]
  rw [hrows] at hown hrl
  obtain ⟨p6, c6, rfl⟩ := hown.form
  refine nthen ?_
  refine cseq ?_
  refine cseq ?_
  refine creg ?_
  refine l1 (mvs rfl) ?_
  refine l1 (lens sl74 rfl rfl) ?_
  refine l1 (eql rfl rfl) ?_
  refine lnil ?_
  refine nthen ?_
  refine cif rfl (fun h1 => ?_) (fun h1 => ?_)
  · have hof := of_none (tok := tok) (l := l) (n := n) h1
    refine cseq ?_
    refine creg ?_
    refine l1 (bld0 bk83z) ?_
    refine lstw 1 rfl rfl rfl Try.sizeOf83 rfl rfl rfl ?_
    refine l1 (asgb rfl) ?_
    refine lnil ?_
    refine nthen ?_
    refine cret ?_
    refine nthenR ?_
    exact finM (.tuple #[.agg (encI iz).toArray, .bool false]) [] (rv2 rfl (rvc 1 Try.isAgg83 Try.sizeOf83 rfl rfl rfl rfl) (rvt rfl)) ⟨[], List.Perm.refl _, List.nil_sublist _⟩ ⟨iz, by rw [hof], by rw [hof], ⟨.inl rfl, .inl rfl⟩⟩
  · have hof := of_some (tok := tok) (l := l) (n := n) h1
    have hsub : oe.Sublist (gh G) := by rw [hA]; exact (List.sublist_append_left _ _).trans (List.sublist_append_right _ _)
    refine cskip ?_
    refine nthen ?_
    refine cseq ?_
    refine creg ?_
    refine l1 (ldw 0 Try.isAgg34 Try.sizeOf34 rfl rfl rfl) ?_
    refine l1 (mvs rfl) ?_
    refine lclm hb87 rfl (mc rfl (mc rfl mn)) (fun w' hw => made_item_calls w' tok p6 (ofRows tok (counted l n)).length c6 (fun i => (ofRows tok (counted l n)).getD i rz) (by omega) (SlIn.sl (hown.slInL (fun a => rfl) (fun i hi => ⟨_, List.getElem?_eq_getElem hi, by rw [List.getD_eq_getElem?_getD, List.getElem?_eq_getElem hi]; rfl⟩)) (hw.sub (hsub.trans (List.Sublist.cons _ (List.Sublist.cons _ (List.Sublist.refl _)))))) (fun i hi => (hrx i hi).keptS hw) hrf) ?_
    rintro v17 Hn ⟨I, rfl, hI, hIn⟩
    rw [getL_rows] at hI
    refine lstw 1 rfl rfl rfl Try.sizeOf83 rfl rfl rfl ?_
    refine l1 (asgb rfl) ?_
    refine lnil ?_
    refine nthen ?_
    refine cret ?_
    exact finM (.tuple #[.agg (encI I).toArray, .bool true]) Hn (rv2 rfl (rvc 1 Try.isAgg83 Try.sizeOf83 rfl rfl rfl rfl) (rvt rfl)) ⟨_, List.Perm.refl _, (List.Sublist.cons _ (List.Sublist.cons _ (List.sublist_append_right _ _)))⟩ ⟨I, by rw [hof], by rw [hof]; exact hI, hIn⟩
end Go.Proofs.Ytkdbjhlkahkobaa
