/- several texts of ours, joined: Yd, Ye, Yf, Byn, Yh, Shc, Sho, Mem6, Yk, Inj, Cvs, Mor2 -/
import Derived.Test.YtkdbjhlkahkobaaZa
import Derived.Test.YtkdbjhlkahkobaaZe
import Derived.Test.YtkdbjhlkahkobaaZb
import Derived.Deep.QuietTactic
import Derived.Shelf.SlSortCmp.NoneTotal
/- walks, printed by a program of ours -/
namespace Go.Proofs.Ytkdbjhlkahkobaa
open Jal Go.RowKit
set_option maxRecDepth 100000
theorem seen_gt (S : List Rw) (r : Rw) : decide ((bif seenR S r then (1 : Int) else 0) > 0) = seenR S r := by cases seenR S r <;> rfl

set_option maxHeartbeats 2000000 in
theorem parted_calls (w : World) (p : Option Addr) (n c : Nat) (l : Nat → Rw) (hn : n ≤ 100) (hl : Sl w p n 130 (fun i => encR (l i))) (hx : ∀ i, i < n → RwIn w (l i)) (kx : ∀ i, i < n → RwOk (l i)) : Calls Try.prog 86 #[.slice p n c] w (PartR w l n) := by
  refine fn_calls (n := 50) Try.func86 rfl rfl (lb rfl) ?_
  refine cseq ?_
  refine creg ?_
  refine l1 (asg rfl) ?_
  refine lnil ?_
  refine nthen ?_
  refine cseq ?_
  refine creg ?_
  refine lmkm kv34 (fun w1 r1 hb1 hlo1 hl1 ho1 => ?_)
  refine l1 (asg rfl) ?_
  refine lnil ?_
  refine nthen ?_
  refine cseq ?_
  refine creg ?_
  refine lmkm kv140 (fun w2 r2 hb2 hlo2 hl2 ho2 => ?_)
  have hP0 : ParOk w r1 r2 l n ⟨0, [], [], w2⟩ := ⟨Nat.zero_le _, hb1.trans (hb2.mono hb1.size), hlo1, Nat.le_trans hb1.size hlo2, Nat.lt_of_lt_of_le hl1 hb2.size, hl2, by omega, (hb2.block r1 hl1).trans ho1, ho2, rfl, rfl, fun g hg => absurd hg (by simp), fun g hg => absurd hg (by simp)⟩
  refine l1 (asg rfl) ?_
  refine lnil ?_
  refine nthen ?_
  refine cseq ?_
  refine cseq ?_
  refine creg ?_
  refine l1 (mvs rfl) ?_
  refine l1 (lens sl74 rfl rfl) ?_
  refine l1 (mvi rfl) ?_
  refine lnil ?_
  refine nthen ?_
  refine cblock ?_
  refine cloopB (σ := ParS) (fun s => s.W) (fun s => [(3, .map (some r1)), (4, .map (some r2)), (10, .slice p n c), (11, .int .i64 (n : Int)), (12, .int .i64 (s.i : Int))]) (fun s => gh s.G) (fun s => ParOk w r1 r2 l n s) (fun s => n - s.i) ⟨0, [], [], w2⟩ rfl hP0 ⟨rfl, rfl, rfl, rfl, rfl, trivial⟩ (List.Sublist.refl _) ?_
  rintro ⟨i, G, S, W⟩ j hok
  show WC _ _ W (gh G) _ _ (over j [(3, .map (some r1)), (4, .map (some r2)), (10, .slice p n c), (11, .int .i64 (n : Int)), (12, .int .i64 (i : Int))])
  have hi : i ≤ n := hok.hi
  have hbw : Below w.heap.size w W := hok.below
  have hl1 : r1 < W.heap.size := hok.l1
  have hl2 : r2 < W.heap.size := hok.l2
  have ho1 : W.heap[r1]? = some (mob kv34 (gm G)) := hok.o1
  have ho2 : W.heap[r2]? = some (mob kv140 (cm S)) := hok.o2
  refine cseq ?_
  refine creg ?_
  refine l1 (lss rfl rfl) ?_
  refine lnil ?_
  refine nthen ?_
  refine cseq ?_
  refine cif rfl (fun h1 => ?_) (fun h1 => ?_)
  · have hlt : i < n := by (have := dt h1; omega)
    obtain ⟨b, o, hp, hbl, hm⟩ := hl.at hlt
    refine cskip ?_
    refine nthen ?_
    refine cseq ?_
    refine cblock ?_
    refine cseq ?_
    refine creg ?_
    refine l1 (isp sl74 hp rfl rfl (by omega) (by omega)) ?_
    refine l1 (ldam (vs := encR (l i)) Try.isAgg79 Try.sizeOf79 rfl rfl (fun w' hw => ((hm i hlt).kept hbw hbl).kept hw.below (Nat.lt_of_lt_of_le hbl hbw.size))) ?_
    refine lal (zs := encR rz) Try.zeroValue79 rfl (fun b1 => ?_)
    refine wl_perm (ins_perm 0 _ _) ?_
    refine lstw 0 rfl rfl rfl Try.sizeOf79 rfl rfl rfl ?_
    refine lnil ?_
    refine nthen ?_
    refine cseq ?_
    refine creg ?_
    refine l1 (fa fa79_0 rfl) ?_
    refine l1 (fa fa37_0 rfl) ?_
    refine l1 (ldc 0 Try.isAgg3 rfl rfl rfl) ?_
    refine l1 (fa fa79_0 rfl) ?_
    refine l1 (fa fa37_1 rfl) ?_
    refine l1 (ldc 0 Try.isAgg22 rfl rfl rfl) ?_
    refine l1 (bldk (zs := [.int .i64 (l i).hd.writer, .int .u64 (l i).hd.seq]) rfl (bk140 _ _)) ?_
    refine lal Try.zeroValue140 rfl (fun b2 => ?_)
    refine wl_perm (ins_perm 1 _ _) ?_
    refine lstw 1 rfl rfl rfl Try.sizeOf140 rfl rfl rfl ?_
    refine lnil ?_
    refine nthen ?_
    refine cseq ?_
    refine cseq ?_
    refine creg ?_
    refine l1 (ldw 0 Try.isAgg79 Try.sizeOf79 rfl rfl rfl) ?_
    refine l1 (cl hb54 rfl (mc rfl mn) (fun w hw => rowformed_calls (l i) w ((hx i hlt).keptS (H := []) ⟨hbw.trans (hw.below.mono hbw.size), fun e he => absurd he (by simp), .nil⟩) (kx i hlt))) ?_
    refine l1 (nt rfl) ?_
    refine l1 (mvb rfl) ?_
    refine l1g rfl (gwf rfl) (fun h => mv rfl) ?_
    refine l1g rfl (gwf rfl) (fun h => ldw 1 Try.isAgg140 Try.sizeOf140 rfl rfl rfl) ?_
    refine l1g rfl (gwf rfl) (fun h => lkpv K140 (k := keyR (l i)) (v := .int .i64 (bif seenR S (l i) then 1 else 0)) Try.underlying138 Try.zeroValue3 (gvt h) (gvt h) (fun w' hw => (hw.below.block r2 hl2).trans ho2) (cm_val S (l i))) ?_
    refine l1g rfl (gwf rfl) (fun h => gtr (gvt h) rfl) ?_
    refine l1 (pk_or rfl rfl rfl) ?_
    refine lnil ?_
    refine nthen ?_
    refine cif rfl (fun h2 => ?_) (fun h2 => ?_)
    · have hkeep : (!formedR (l i) || seenR S (l i)) = true := by (rw [seen_gt] at h2; exact h2)
      refine cexit ?_
      refine nthenE ?_
      refine nblkE ?_
      refine nthen ?_
      refine creg ?_
      first | refine l1 (addn rfl rfl (ri (by omega) (by omega))) ?_ | refine l1 (add rfl rfl) ?_
      refine l1 (mvi rfl) ?_
      refine lnil ?_
      exact nIB ⟨i + 1, G, S, W⟩ rfl (hok.skip hlt hkeep) (by show n - (i + 1) < n - i; omega) ⟨rfl, rfl, rfl, rfl, rfl, trivial⟩ (List.Sublist.cons _ (List.Sublist.cons _ (List.Sublist.refl _)))
    · have hkeep : (!formedR (l i) || seenR S (l i)) = false := by (rw [seen_gt] at h2; exact h2)
      have hns : seenR S (l i) = false := (Bool.or_eq_false_iff.1 hkeep).2
      refine cskip ?_
      refine nthen ?_
      refine cseq ?_
      refine cregHB (⟨b1, encR (l i), 79⟩ :: ⟨b2, [.int .i64 (l i).hd.writer, .int .u64 (l i).hd.seq], 140⟩ :: gh G) 7 mo rfl ?_
      refine hq1B 0 rfl (by kernel_rfl) (by kernel_rfl) (by kernel_rfl) (fun c a w h => h) (.inr ⟨_, rfl⟩) (fun w hw => ⟨_, hw⟩) (fun T => mv rfl) ?_
      refine hq1B 1 rfl (by kernel_rfl) (by kernel_rfl) (by kernel_rfl) (fun c a w h => h) (.inl ⟨_, rfl⟩) (fun w hw => ⟨_, hw⟩) (fun T => ldw 1 Try.isAgg140 Try.sizeOf140 rfl rfl rfl) ?_
      refine hem2 2 4 (by kernel_rfl) rfl rfl ?_ ?_
      · skip
        refine l1 (lkpv K140 (k := keyR (l i)) (v := .int .i64 0) Try.underlying138 Try.zeroValue3 rfl rfl (fun w' hw => (hw.below.block r2 hl2).trans ho2) (cm_val0 hns)) ?_
        refine hnil (fun w hw => ⟨_, hw⟩) ?_
        first | refine hq1B 3 rfl (by kernel_rfl) (by kernel_rfl) (by kernel_rfl) (fun c a w h => h) (.inl ⟨_, rfl⟩) (fun w hw => ⟨_, hw⟩) (fun T => addn rfl rfl (ri (by omega) (by omega))) ?_ | refine hq1B 3 rfl (by kernel_rfl) (by kernel_rfl) (by kernel_rfl) (fun c a w h => h) (.inl ⟨_, rfl⟩) (fun w hw => ⟨_, hw⟩) (fun T => add rfl rfl) ?_
        refine he 4 (by kernel_rfl) rfl ?_
        refine lme K140 (k := keyR (l i)) (z := .int .i64 0) Try.underlying138 Try.zeroValue3 rfl rfl hl2 ho2 ?_
        rw [(cm_put hns _).1, (cm_put hns (.int .i64 0)).2, cm_val0 hns]
        refine hnil (fun w hw => ⟨_, hw⟩) ?_
        refine hq1B 5 rfl (by kernel_rfl) (by kernel_rfl) (by kernel_rfl) (fun c a w h => h) (.inl ⟨_, rfl⟩) (fun w hw => ⟨_, hw⟩) (fun T => ext (vs := [.int .i64 0, goInt S.length]) rfl rfl) ?_
        refine he 6 (by kernel_rfl) rfl ?_
        refine lesm (v := one64) (i := S.length) (M := cm S ++ [(keyR (l i), .int .i64 0)]) rfl rfl rfl (by rw [setB_size]; exact hl2) (setB_same hl2) (by rw [List.length_append, cm_len]; simp) ?_
        rw [cm_set]
        refine hnil (fun w hw => ⟨_, hw⟩) ?_
        refine hend (by kernel_rfl) ?_
        rw [setB_setB]
        refine nthen ?_
        refine creg ?_
        refine l1 (mv rfl) ?_
        refine l1 (fa fa79_0 rfl) ?_
        refine l1 (fa fa37_6 rfl) ?_
        refine l1 (lda 0 Try.isAgg34 Try.sizeOf34 rfl rfl (encR_item _) rfl) ?_
        refine l1 (ldw 0 Try.isAgg79 Try.sizeOf79 rfl rfl rfl) ?_
        refine lbs Try.underlying74 rfl (bs74 (l i)) (fun b3 => ?_)
        refine wl_perm (ins_perm 2 _ _) ?_
        obtain ⟨A, B, oe, rows, v, jj, hA, hown, hrl, hfind, hnext⟩ := grp_step (l i) i G 0 hok.ok hok.len
        have hF := grp_find hfind
        refine lme K34 (k := (l i).hd.item) (M := gm G) (z := znil) Try.underlying117 Try.zeroValue74 rfl rfl (by rw [setB_size]; exact hl1) ((setB_other hok.ne).trans ho1) ?_
        rw [hF.1, hF.2.1, hF.2.2.1]
        refine l1 (ext (vs := [v, goInt jj]) rfl rfl) ?_
        refine lapp3 [_, _, _] A B oe el74 (by rw [hA]; rfl) rfl hown rfl (news := encR (l i)) rfl (fun w' hw => by have := hw.mem (i := 2) rfl 0; simpa using this) (encR_one _) (by decide) (by unfold maxLen; omega) (by omega) ?_
        intro g cap oe' hown'
        refine l1 (ext (vs := [v, goInt jj]) rfl rfl) ?_
        refine lesm (i := jj) (v := .slice (some ⟨g, 0, none⟩) (rows.length + 1) cap) rfl rfl rfl (by rw [setB_size, setB_size]; exact hl1) (setB_same (by rw [setB_size]; exact hl1)) hF.2.2.2 ?_
        obtain ⟨G', hG1, hG2, hG3, hG4, hG5⟩ := hnext _ _ (by rw [List.flatMap_append]; simpa using hown')
        rw [show setM (gput G (l i) jj) jj (.slice (some ⟨g, 0, none⟩) (rows.length + 1) cap) = gm G' from hG5.symm, setB_setB]
        refine lnil ?_
        refine nblkN ?_
        refine nthen ?_
        refine creg ?_
        first | refine l1 (addn rfl rfl (ri (by omega) (by omega))) ?_ | refine l1 (add rfl rfl) ?_
        refine l1 (mvi rfl) ?_
        refine lnil ?_
        exact nIB ⟨i + 1, G', S ++ [l i], _⟩ rfl (by (have hnx := hok.next hlt hkeep hG2 hG3 hG4); exact hnx) (by show n - (i + 1) < n - i; omega) ⟨rfl, rfl, rfl, rfl, rfl, trivial⟩ (by show (gh G').Sublist _; rw [hG1]; exact (List.Sublist.cons _ (List.Sublist.cons _ (List.Sublist.cons _ (List.Sublist.refl _)))))
      · skip
        refine lme K140 (k := keyR (l i)) (z := .int .i64 0) Try.underlying138 Try.zeroValue3 rfl rfl hl2 ho2 ?_
        rw [(cm_put hns _).1, (cm_put hns (.int .i64 0)).2, cm_val0 hns]
        refine hnil (fun w hw => ⟨_, hw⟩) ?_
        refine hq1B 5 rfl (by kernel_rfl) (by kernel_rfl) (by kernel_rfl) (fun c a w h => h) (.inl ⟨_, rfl⟩) (fun w hw => ⟨_, hw⟩) (fun T => ext (vs := [.int .i64 0, goInt S.length]) rfl rfl) ?_
        refine he 2 (by kernel_rfl) rfl ?_
        refine l1 (lkpv K140 (k := keyR (l i)) (v := .int .i64 0) Try.underlying138 Try.zeroValue3 rfl rfl (fun w' hw => (hw.below.block r2 (by rw [setB_size]; exact hl2)).trans (setB_same hl2)) (cm_val2 hns)) ?_
        refine hnil (fun w hw => ⟨_, hw⟩) ?_
        first | refine hq1B 3 rfl (by kernel_rfl) (by kernel_rfl) (by kernel_rfl) (fun c a w h => h) (.inl ⟨_, rfl⟩) (fun w hw => ⟨_, hw⟩) (fun T => addn rfl rfl (ri (by omega) (by omega))) ?_ | refine hq1B 3 rfl (by kernel_rfl) (by kernel_rfl) (by kernel_rfl) (fun c a w h => h) (.inl ⟨_, rfl⟩) (fun w hw => ⟨_, hw⟩) (fun T => add rfl rfl) ?_
        refine he 6 (by kernel_rfl) rfl ?_
        refine lesm (v := one64) (i := S.length) (M := cm S ++ [(keyR (l i), .int .i64 0)]) rfl rfl rfl (by rw [setB_size]; exact hl2) (setB_same hl2) (by rw [List.length_append, cm_len]; simp) ?_
        rw [cm_set]
        refine hnil (fun w hw => ⟨_, hw⟩) ?_
        refine hend (by kernel_rfl) ?_
        rw [setB_setB]
        refine nthen ?_
        refine creg ?_
        refine l1 (mv rfl) ?_
        refine l1 (fa fa79_0 rfl) ?_
        refine l1 (fa fa37_6 rfl) ?_
        refine l1 (lda 0 Try.isAgg34 Try.sizeOf34 rfl rfl (encR_item _) rfl) ?_
        refine l1 (ldw 0 Try.isAgg79 Try.sizeOf79 rfl rfl rfl) ?_
        refine lbs Try.underlying74 rfl (bs74 (l i)) (fun b3 => ?_)
        refine wl_perm (ins_perm 2 _ _) ?_
        obtain ⟨A, B, oe, rows, v, jj, hA, hown, hrl, hfind, hnext⟩ := grp_step (l i) i G 0 hok.ok hok.len
        have hF := grp_find hfind
        refine lme K34 (k := (l i).hd.item) (M := gm G) (z := znil) Try.underlying117 Try.zeroValue74 rfl rfl (by rw [setB_size]; exact hl1) ((setB_other hok.ne).trans ho1) ?_
        rw [hF.1, hF.2.1, hF.2.2.1]
        refine l1 (ext (vs := [v, goInt jj]) rfl rfl) ?_
        refine lapp3 [_, _, _] A B oe el74 (by rw [hA]; rfl) rfl hown rfl (news := encR (l i)) rfl (fun w' hw => by have := hw.mem (i := 2) rfl 0; simpa using this) (encR_one _) (by decide) (by unfold maxLen; omega) (by omega) ?_
        intro g cap oe' hown'
        refine l1 (ext (vs := [v, goInt jj]) rfl rfl) ?_
        refine lesm (i := jj) (v := .slice (some ⟨g, 0, none⟩) (rows.length + 1) cap) rfl rfl rfl (by rw [setB_size, setB_size]; exact hl1) (setB_same (by rw [setB_size]; exact hl1)) hF.2.2.2 ?_
        obtain ⟨G', hG1, hG2, hG3, hG4, hG5⟩ := hnext _ _ (by rw [List.flatMap_append]; simpa using hown')
        rw [show setM (gput G (l i) jj) jj (.slice (some ⟨g, 0, none⟩) (rows.length + 1) cap) = gm G' from hG5.symm, setB_setB]
        refine lnil ?_
        refine nblkN ?_
        refine nthen ?_
        refine creg ?_
        first | refine l1 (addn rfl rfl (ri (by omega) (by omega))) ?_ | refine l1 (add rfl rfl) ?_
        refine l1 (mvi rfl) ?_
        refine lnil ?_
        exact nIB ⟨i + 1, G', S ++ [l i], _⟩ rfl (by (have hnx := hok.next hlt hkeep hG2 hG3 hG4); exact hnx) (by show n - (i + 1) < n - i; omega) ⟨rfl, rfl, rfl, rfl, rfl, trivial⟩ (by show (gh G').Sublist _; rw [hG1]; exact (List.Sublist.cons _ (List.Sublist.cons _ (List.Sublist.cons _ (List.Sublist.refl _)))))
  · have hge : i = n := by (have := df h1; omega)
    refine cexit ?_
    refine nthenE ?_
    refine nIE ?_
    refine nblkE ?_
    refine nthen ?_
    refine cseq ?_
    refine creg ?_
    refine l1 (mv rfl) ?_
    refine l1 (asg rfl) ?_
    refine lnil ?_
    refine nthen ?_
    refine cret ?_
    exact finB (.map (some r1)) (rv1 rfl (rvt rfl)) (fun w' hw => ⟨r1, W, G, rfl, hbw, hok.lo1, hl1, ho1, hok.ok, by (have hg1 : pg G = partsOf S := hok.grp; have hg2 : S = counted l i := hok.cnt; rw [hg1, hg2, hge]), fun g hg => Nat.le_trans (hok.len g hg) hi, hw⟩)
end Go.Proofs.Ytkdbjhlkahkobaa
/- walks, printed by a program of ours -/
namespace Go.Proofs.Ytkdbjhlkahkobaa
open Jal Go.RowKit
set_option maxRecDepth 100000
theorem bk83z : ∀ w, (Instr.build 83 #[]).run Try.prog w = .ok (.agg (encI iz).toArray) w := fun w => by kernel_rfl

def PartF' (l : Nat → Rw) (n : Nat) (v : Value) (W : World) (Hn : List Ent) : Prop := ∃ r G, v = .map (some r) ∧ Hn = gh G ∧ r < W.heap.size ∧ W.heap[r]? = some (mob kv34 (gm G)) ∧ (∀ g ∈ G, GpOk g) ∧ pg G = partsOf (counted l n) ∧ (∀ g ∈ G, g.rows.length ≤ n)
theorem PartR.base' {w : World} {l : Nat → Rw} {n : Nat} {e : Ending} {w' : World} (h : PartR w l n e w') : BaseR (PartF' l n) w e w' := by
  obtain ⟨r, W, G, h1, h2, h3, h4, h5, h6, h7, h8, h9⟩ := h
  exact ⟨_, W, gh G, h1, h2, ⟨r, G, rfl, rfl, h4, h5, h6, h7, h8⟩, h9⟩
theorem of_none {tok : Nat → Int} {l : Nat → Rw} {n : Nat} (h : decide ((((ofRows tok (counted l n))).length : Int) = 0) = true) : ofI tok l n = (iz, false) := by unfold ofI; rw [h]; rfl
theorem of_some {tok : Nat → Int} {l : Nat → Rw} {n : Nat} (h : decide ((((ofRows tok (counted l n))).length : Int) = 0) = false) : ofI tok l n = (madeI tok (ofRows tok (counted l n)), true) := by unfold ofI; rw [h]; rfl
theorem ofRows_get {tok : Nat → Int} {l : Nat → Rw} {n i : Nat} (hi : i < ((ofRows tok (counted l n))).length) : ∃ j, j < n ∧ ((ofRows tok (counted l n))).getD i rz = l j := by
  have h1 : ((ofRows tok (counted l n))).getD i rz ∈ (ofRows tok (counted l n)) := by
    rw [List.getD_eq_getElem?_getD, List.getElem?_eq_getElem hi]; exact List.getElem_mem hi
  obtain ⟨j, h2, h3, _⟩ := cnt_mem l n _ (List.mem_filter.1 h1).1
  exact ⟨j, h2, h3⟩

set_option maxHeartbeats 2000000 in
theorem of_calls (w : World) (tok : Nat → Int) (p : Option Addr) (n c : Nat) (l : Nat → Rw) (hn : n ≤ 100) (hl : Sl w p n 130 (fun i => encR (l i))) (hx : ∀ i, i < n → RwIn w (l i)) (kx : ∀ i, i < n → RwOk (l i)) (fx : ∀ i, i < n → (l i).hd.tn ≤ 20 ∧ (l i).ch.gn ≤ 20) : Calls Try.prog 50 #[.slice p n c, .agg (arr .u8 16 tok).toArray] w (RetM (fun v Hn => ∃ I, v = .tuple #[.agg (encI I).toArray, .bool (ofI tok l n).2] ∧ coreI I = coreI (ofI tok l n).1 ∧ ItIn Hn I) w) := by
  refine fn_calls (n := 18) Try.func50 rfl rfl (lb rfl) ?_
  have hrx : ∀ i, i < (ofRows tok (counted l n)).length → RwIn w ((ofRows tok (counted l n)).getD i rz) := fun i hi => by obtain ⟨j, h1, h2⟩ := ofRows_get hi; rw [h2]; exact hx j h1
  have hrf : ∀ i, i < (ofRows tok (counted l n)).length → ((ofRows tok (counted l n)).getD i rz).hd.tn ≤ 20 ∧ ((ofRows tok (counted l n)).getD i rz).ch.gn ≤ 20 := fun i hi => by obtain ⟨j, h1, h2⟩ := ofRows_get hi; rw [h2]; exact fx j h1
  refine cseq ?_
  refine creg ?_
  refine lbxa rfl (fun b1 => ?_)
  refine lal (zs := encI iz) Try.zeroValue83 rfl (fun b2 => ?_)
  refine l1 (asgb rfl) ?_
  refine lnil ?_
  refine nthen ?_
  refine cseq ?_
  refine cregH (fun x : List Ent => ⟨b1, arr .u8 16 tok, 34⟩ :: ⟨b2, encI iz, 83⟩ :: x) 5 mo rfl ?_
  refine hq1 0 rfl (by kernel_rfl) (by kernel_rfl) (by kernel_rfl) (fun c a w h => h) (.inr ⟨_, rfl⟩) (fun w hw => ⟨[], hw⟩) (fun T => mvs rfl) ?_
  refine hq1 2 rfl (by kernel_rfl) (by kernel_rfl) (by kernel_rfl) (fun c a w h => h) (.inl ⟨_, rfl⟩) (fun w hw => ⟨[], hw⟩) (fun T => ldw 0 Try.isAgg34 Try.sizeOf34 rfl rfl rfl) ?_
  refine he 1 (by kernel_rfl) rfl ?_
  refine lclB hb86 rfl (mc rfl mn) (Φ := PartF' l n) (fun w' hw => (parted_calls w' p n c l hn (Sl.keptS hl hw) (fun i hi => (hx i hi).keptS hw) kx).mono (fun e w2 h => h.base')) ?_
  rintro v8 W H8 ⟨r, G, rfl, rfl, hlr, hor, hok, hpg, hlen⟩ hU
  obtain ⟨A, B, oe, v, hA, hfind, hown, hrl⟩ := grp_look tok n G hok hlen
  refine hnil (fun w hw => ⟨_, hU w hw⟩) ?_
  refine he 3 (by kernel_rfl) rfl ?_
  refine l1 (lkpv K34 (k := tok) (M := gm G) (z := znil) Try.underlying117 Try.zeroValue74 rfl rfl (fun w' hw => (hw.below.block r hlr).trans hor) (grp_val hfind)) ?_
  refine hnil (fun w hw => ⟨_, hU w hw⟩) ?_
  refine he 4 (by kernel_rfl) rfl ?_
  refine l1 (asg rfl) ?_
  refine hnil (fun w hw => ⟨_, hU w hw⟩) ?_
  refine hend (by kernel_rfl) ?_
  refine nq_imp hU ?_
  have hrows : lookP tok (pg G) = (ofRows tok (counted l n)) := by rw [hpg, lookP_parts]
  rw [hrows] at hown hrl
  obtain ⟨p6, c6, rfl⟩ := hown.form
  refine nthen ?_
  refine cseq ?_
  refine cseq ?_
  refine creg ?_
  refine l1 (mvs rfl) ?_
  refine l1 (lens sl74 rfl rfl) ?_
  refine l1 (eql rfl rfl) ?_
  refine lnil ?_
  refine nthen ?_
  refine cif rfl (fun h1 => ?_) (fun h1 => ?_)
  · have hof := of_none (tok := tok) (l := l) (n := n) h1
    refine cseq ?_
    refine creg ?_
    refine l1 (bld0 bk83z) ?_
    refine lstw 1 rfl rfl rfl Try.sizeOf83 rfl rfl rfl ?_
    refine l1 (asgb rfl) ?_
    refine lnil ?_
    refine nthen ?_
    refine cret ?_
    refine nthenR ?_
    exact finM (.tuple #[.agg (encI iz).toArray, .bool false]) [] (rv2 rfl (rvc 1 Try.isAgg83 Try.sizeOf83 rfl rfl rfl rfl) (rvt rfl)) ⟨[], List.Perm.refl _, List.nil_sublist _⟩ ⟨iz, by rw [hof], by rw [hof], ⟨.inl rfl, .inl rfl⟩⟩
  · have hof := of_some (tok := tok) (l := l) (n := n) h1
    have hsub : oe.Sublist (gh G) := by rw [hA]; exact (List.sublist_append_left _ _).trans (List.sublist_append_right _ _)
    refine cskip ?_
    refine nthen ?_
    refine cseq ?_
    refine creg ?_
    refine l1 (ldw 0 Try.isAgg34 Try.sizeOf34 rfl rfl rfl) ?_
    refine l1 (mvs rfl) ?_
    refine lclm hb87 rfl (mc rfl (mc rfl mn)) (fun w' hw => made_item_calls w' tok p6 (ofRows tok (counted l n)).length c6 (fun i => (ofRows tok (counted l n)).getD i rz) (by omega) (SlIn.sl (hown.slInL (fun a => rfl) (fun i hi => ⟨_, List.getElem?_eq_getElem hi, by rw [List.getD_eq_getElem?_getD, List.getElem?_eq_getElem hi]; rfl⟩)) (hw.sub (hsub.trans (List.Sublist.cons _ (List.Sublist.cons _ (List.Sublist.refl _)))))) (fun i hi => (hrx i hi).keptS hw) hrf) ?_
    rintro v17 Hn ⟨I, rfl, hI, hIn⟩
    rw [getL_rows] at hI
    refine lstw 1 rfl rfl rfl Try.sizeOf83 rfl rfl rfl ?_
    refine l1 (asgb rfl) ?_
    refine lnil ?_
    refine nthen ?_
    refine cret ?_
    exact finM (.tuple #[.agg (encI I).toArray, .bool true]) Hn (rv2 rfl (rvc 1 Try.isAgg83 Try.sizeOf83 rfl rfl rfl rfl) (rvt rfl)) ⟨_, List.Perm.refl _, (List.Sublist.cons _ (List.Sublist.cons _ (List.sublist_append_right _ _)))⟩ ⟨I, by rw [hof], by rw [hof]; exact hI, hIn⟩
end Go.Proofs.Ytkdbjhlkahkobaa
/- walks, printed by a program of ours -/
namespace Go.Proofs.Ytkdbjhlkahkobaa
open Jal Go.RowKit
set_option maxRecDepth 100000
theorem mem_part {w : World} {b o : Nat} {cs : List Value} (i m : Nat) (h : Mem w ⟨b, o, none⟩ cs) : Mem w ⟨b, o + i, none⟩ ((cs.drop i).take m) := fun j v hv => by
  have h1 : cs[i + j]? = some v := by
    rw [List.getElem?_take] at hv
    split at hv
    · rwa [List.getElem?_drop] at hv
    · cases hv
  have h2 := h (i + j) v h1
  rw [Addr.add_off] at h2 ⊢
  rw [Nat.add_assoc]; exact h2
def bigR (r : Rw) : Bool := ((decide ((r.hd.tn : Int) > 20) || decide ((r.ch.gn : Int) > 20)) || decide ((r.ch.name.size : Int) > 100)) || decide ((r.ch.value.size : Int) > 700)
def fewRow (r : Rw) : Bool := !bigR r && (List.range r.ch.gn).all fun j => !decide (((r.ch.tag j).size : Int) > 100)
def fewRs (l : Nat → Rw) (n : Nat) : Bool := (List.range (min n 100)).all fun i => fewRow (l i)
def fewR (l : Nat → Rw) (n : Nat) (k : Int) : Bool := fewRs l n && decide ((n : Int) ≤ k)
theorem fewRow_big {r : Rw} (h : bigR r = true) : fewRow r = false := by unfold fewRow; rw [h]; rfl
theorem fewRow_tag {r : Rw} {j : Nat} (hj : j < r.ch.gn) (h : decide (((r.ch.tag j).size : Int) > 100) = true) : fewRow r = false := by
  unfold fewRow
  have : ((List.range r.ch.gn).all fun j => !decide (((r.ch.tag j).size : Int) > 100)) = false := by
    rw [List.all_eq_false]
    exact ⟨j, List.mem_range.2 hj, by rw [h]; simp⟩
  rw [this, Bool.and_false]
theorem fewRow_yes {r : Rw} (h : bigR r = false) (ht : ∀ j, j < r.ch.gn → ¬ ((r.ch.tag j).size : Int) > 100) : fewRow r = true := by
  unfold fewRow
  rw [h]
  exact List.all_eq_true.2 fun j hj => by
    have := ht j (List.mem_range.1 hj)
    simp; omega
theorem fewRs_no {l : Nat → Rw} {n i : Nat} (hi : i < n) (h1 : i < 100) (h : fewRow (l i) = false) : fewRs l n = false := by
  unfold fewRs
  rw [List.all_eq_false]
  exact ⟨i, List.mem_range.2 (by omega), by rw [h]; simp⟩
theorem fewRs_yes {l : Nat → Rw} {n : Nat} (h : ∀ i, i < n → i < 100 → fewRow (l i) = true) : fewRs l n = true :=
  List.all_eq_true.2 fun i hi => by
    have := List.mem_range.1 hi
    exact h i (by omega) (by omega)

set_option maxHeartbeats 1000000 in
theorem fewrows_calls (w : World) (p : Option Addr) (n c : Nat) (l : Nat → Rw) (k : Int) (hn : (n : Int) ≤ 9223372036854775807) (hl : Sl w p n 130 (fun i => encR (l i))) (hx : ∀ i, i < n → RwIn w (l i)) (kx : ∀ i, i < n → RwOk (l i)) : Calls Try.prog 48 #[.slice p n c, .int .i64 k] w (Ret (.bool (fewR l n k)) w) := by
  refine fn_calls (n := 67) Try.func48 rfl rfl (lb rfl) ?_
  refine cseq ?_
  refine creg ?_
  refine l1 (asgb rfl) ?_
  refine lnil ?_
  refine nthen ?_
  refine cseq ?_
  refine cseq ?_
  refine creg ?_
  refine l1 (asgi rfl) ?_
  refine lnil ?_
  refine nthen ?_
  refine cblock ?_
  refine cloopI (σ := Nat) (fun s => [(0, .slice p n c), (1, .int .i64 k), (5, .int .i64 (s : Int))]) (fun s => []) (fun s => s ≤ n ∧ s ≤ 100 ∧ ∀ j, j < s → fewRow (l j) = true) (fun s => n + 1 - s) 0 ⟨Nat.zero_le _, by omega, fun j hj => by omega⟩ ⟨rfl, rfl, rfl, trivial⟩ (List.Sublist.refl _) ?_
  rintro i j hI
  show WC _ _ _ ([]) _ _ (over j [(0, .slice p n c), (1, .int .i64 k), (5, .int .i64 (i : Int))])
  replace hI : i ≤ n ∧ i ≤ 100 ∧ ∀ j, j < i → fewRow (l j) = true := hI
  refine cseq ?_
  refine cseq ?_
  refine creg ?_
  refine l1 (mvi rfl) ?_
  refine l1 (mvs rfl) ?_
  refine l1 (lens sl74 rfl rfl) ?_
  refine l1 (lss rfl rfl) ?_
  refine l1 (mvb rfl) ?_
  refine l1g rfl (gwt rfl) (fun h => mvi rfl) ?_
  refine l1g rfl (gwt rfl) (fun h => lss (gvt h) rfl) ?_
  refine l1 (pk_and rfl rfl rfl) ?_
  refine lnil ?_
  refine nthen ?_
  refine cif rfl (fun h1 => ?_) (fun h1 => ?_)
  · have hlt : i < n ∧ i < 100 := by (simp at h1; omega)
    obtain ⟨b, o, hp, hbl, hm⟩ := hl.at hlt.1
    have hgn := (kx i hlt.1).c.n
    refine cskip ?_
    refine nthen ?_
    refine cseq ?_
    refine cblock ?_
    refine cseq ?_
    refine creg ?_
    refine l1 (mvs rfl) ?_
    refine l1 (mvi rfl) ?_
    refine l1 (isp sl74 hp rfl rfl (by omega) (by omega)) ?_
    refine l1 (fa fa79_2 rfl) ?_
    refine l1 (ldam (vs := encCh (l i).ch) Try.isAgg77 Try.sizeOf77 rfl rfl (fun w' hw => mem_part 126 4 ((hm i hlt.1).kept hw.below hbl))) ?_
    refine lal (zs := encCh chz) Try.zeroValue77 rfl (fun b1 => ?_)
    refine lstw 0 rfl rfl rfl Try.sizeOf77 rfl rfl rfl ?_
    refine lnil ?_
    refine nthen ?_
    refine cseq ?_
    refine cseq ?_
    refine creg ?_
    refine l1 (mvs rfl) ?_
    refine l1 (mvi rfl) ?_
    refine l1 (isp sl74 hp rfl rfl (by omega) (by omega)) ?_
    refine l1 (fa fa79_0 rfl) ?_
    refine l1 (fa fa37_7 rfl) ?_
    refine l1 (ldm (v := .slice (l i).hd.tp (l i).hd.tn (l i).hd.tc) Try.isAgg35 rfl (fun w' hw => ((hm i hlt.1).kept hw.below hbl).at (i := 53) rfl)) ?_
    refine l1 (lens sl35 rfl rfl) ?_
    refine l1 (gtr rfl rfl) ?_
    refine l1 (mvb rfl) ?_
    refine l1g rfl (gwf rfl) (fun h => fa fa77_2 rfl) ?_
    refine l1g rfl (gwf rfl) (fun h => ldc 0 Try.isAgg75 rfl (gvt h) rfl) ?_
    refine l1g rfl (gwf rfl) (fun h => lens sl75 rfl (gvt h)) ?_
    refine l1g rfl (gwf rfl) (fun h => gtr (gvt h) rfl) ?_
    refine l1 (pk_or rfl rfl rfl) ?_
    refine l1 (mvb rfl) ?_
    refine l1g rfl (gwf rfl) (fun h => fa fa77_1 rfl) ?_
    refine l1g rfl (gwf rfl) (fun h => ldc 0 Try.isAgg9 rfl (gvt h) rfl) ?_
    refine l1g rfl (gwf rfl) (fun h => lenstr Try.underlying9 rfl (gvt h)) ?_
    refine l1g rfl (gwf rfl) (fun h => gtr (gvt h) rfl) ?_
    refine l1 (pk_or rfl rfl rfl) ?_
    refine l1 (mvb rfl) ?_
    refine l1g rfl (gwf rfl) (fun h => fa fa77_3 rfl) ?_
    refine l1g rfl (gwf rfl) (fun h => ldc 0 Try.isAgg9 rfl (gvt h) rfl) ?_
    refine l1g rfl (gwf rfl) (fun h => lenstr Try.underlying9 rfl (gvt h)) ?_
    refine l1g rfl (gwf rfl) (fun h => gtr (gvt h) rfl) ?_
    refine l1 (pk_or rfl rfl rfl) ?_
    refine lnil ?_
    refine nthen ?_
    refine cif rfl (fun h2 => ?_) (fun h2 => ?_)
    · change bigR (l i) = _ at h2
      refine cseq ?_
      refine creg ?_
      refine l1 (asgb rfl) ?_
      refine lnil ?_
      refine nthen ?_
      refine cret ?_
      refine nthenR ?_
      refine nblkR ?_
      refine nthenR ?_
      refine nIR ?_
      refine nblkR ?_
      refine nthenR ?_
      exact fin1b rfl rfl (by rw [fewR, fewRs_no (by omega) (by omega) (fewRow_big h2)]; rfl)
    · change bigR (l i) = _ at h2
      refine cskip ?_
      refine nthen ?_
      refine cseq ?_
      refine creg ?_
      refine l1 (asgi rfl) ?_
      refine lnil ?_
      refine nthen ?_
      refine cblock ?_
      refine cloopI (σ := Nat) (fun s => [(0, .slice p n c), (1, .int .i64 k), (5, .int .i64 (i : Int)), (6, .pointer (some ⟨b1, 0, none⟩)), (7, .int .i64 (s : Int))]) (fun s => [⟨b1, encCh (l i).ch, 77⟩]) (fun s => s ≤ (l i).ch.gn ∧ ∀ k, k < s → ¬ (((l i).ch.tag k).size : Int) > 100) (fun s => (l i).ch.gn - s) 0 ⟨Nat.zero_le _, fun j hj => by omega⟩ ⟨rfl, rfl, rfl, rfl, rfl, trivial⟩ (List.Sublist.refl _) ?_
      rintro q j hJ
      show WC _ _ _ ([⟨b1, encCh (l i).ch, 77⟩]) _ _ (over j [(0, .slice p n c), (1, .int .i64 k), (5, .int .i64 (i : Int)), (6, .pointer (some ⟨b1, 0, none⟩)), (7, .int .i64 (q : Int))])
      replace hJ : q ≤ (l i).ch.gn ∧ ∀ k, k < q → ¬ (((l i).ch.tag k).size : Int) > 100 := hJ
      refine cseq ?_
      refine cseq ?_
      refine creg ?_
      refine l1 (mvi rfl) ?_
      refine l1 (fa fa77_2 rfl) ?_
      refine l1 (ldc 0 Try.isAgg75 rfl rfl rfl) ?_
      refine l1 (lens sl75 rfl rfl) ?_
      refine l1 (lss rfl rfl) ?_
      refine lnil ?_
      refine nthen ?_
      refine cif rfl (fun h3 => ?_) (fun h3 => ?_)
      · have hlq : q < (l i).ch.gn := by (have := dt h3; omega)
        obtain ⟨b2, o2, hp2, hbl2, hm2⟩ := (hx i hlt.1).c.at hlq
        refine cskip ?_
        refine nthen ?_
        refine cseq ?_
        refine cblock ?_
        refine cseq ?_
        refine creg ?_
        refine l1 (fa fa77_2 rfl) ?_
        refine l1 (ldc 0 Try.isAgg75 rfl rfl rfl) ?_
        refine l1 (mvi rfl) ?_
        refine l1 (isp sl75 hp2 rfl rfl (by omega) (by omega)) ?_
        refine l1 (ldm (v := .string ((l i).ch.tag q)) Try.isAgg9 rfl (fun w' hw => ((hm2 q hlq).kept hw.below hbl2).c0)) ?_
        refine l1 (lenstr Try.underlying9 rfl rfl) ?_
        refine l1 (gtr rfl rfl) ?_
        refine lnil ?_
        refine nthen ?_
        refine cif rfl (fun h4 => ?_) (fun h4 => ?_)
        · skip
          refine cseq ?_
          refine creg ?_
          refine l1 (asgb rfl) ?_
          refine lnil ?_
          refine nthen ?_
          refine cret ?_
          refine nblkR ?_
          refine nthenR ?_
          refine nIR ?_
          refine nblkR ?_
          refine nblkR ?_
          refine nthenR ?_
          refine nIR ?_
          refine nblkR ?_
          refine nthenR ?_
          exact fin1b rfl rfl (by rw [fewR, fewRs_no (i := i) (by omega) (by omega) (fewRow_tag hlq h4)]; rfl)
        · skip
          refine cskip ?_
          refine nblkN ?_
          refine nthen ?_
          refine creg ?_
          refine l1 (mvi rfl) ?_
          first | refine l1 (addn rfl rfl (ri (by omega) (by omega))) ?_ | refine l1 (add rfl rfl) ?_
          refine l1 (asgi rfl) ?_
          refine lnil ?_
          exact nI (q + 1) ⟨by omega, fun k hk => (Nat.lt_succ_iff_lt_or_eq.1 hk).elim (fun h => hJ.2 k h) (fun h => by subst h; exact df h4)⟩ (by show (l i).ch.gn - (q + 1) < (l i).ch.gn - q; omega) ⟨rfl, rfl, rfl, rfl, rfl, trivial⟩ (List.Sublist.refl _)
      · skip
        refine cexit ?_
        refine nthenE ?_
        refine nIE ?_
        refine nblkE ?_
        refine nblkN ?_
        refine nthen ?_
        refine creg ?_
        refine l1 (mvi rfl) ?_
        first | refine l1 (addn rfl rfl (ri (by omega) (by omega))) ?_ | refine l1 (add rfl rfl) ?_
        refine l1 (asgi rfl) ?_
        refine lnil ?_
        exact nI (i + 1) ⟨by omega, by omega, fun j hj => (Nat.lt_succ_iff_lt_or_eq.1 hj).elim (fun h => hI.2.2 j h) (fun h => by subst h; exact fewRow_yes h2 (fun k hk => hJ.2 k (by have := df h3; omega)))⟩ (by show n + 1 - (i + 1) < n + 1 - i; omega) ⟨rfl, rfl, rfl, trivial⟩ (List.Sublist.cons _ (List.Sublist.refl _))
  · have hge : ¬ (i < n ∧ i < 100) := by (intro hc; simp at h1; omega)
    refine cexit ?_
    refine nthenE ?_
    refine nIE ?_
    refine nblkE ?_
    refine nthen ?_
    refine cseq ?_
    refine creg ?_
    refine l1 (mvs rfl) ?_
    refine l1 (lens sl74 rfl rfl) ?_
    refine l1 (mvi rfl) ?_
    refine l1 (leq rfl rfl) ?_
    refine l1 (asgb rfl) ?_
    refine lnil ?_
    refine nthen ?_
    refine cret ?_
    exact fin1b rfl rfl (by rw [fewR, fewRs_yes (fun j hj h100 => hI.2.2 j (by omega))]; rfl)
end Go.Proofs.Ytkdbjhlkahkobaa
/- numbers and headers as bytes -/
namespace Jal
open Go Go.RowKit
section
variable {P : Program} {C : World → Prop} {ρ : Operand → Value} {d : Option Tmp} {ty : TypeId} {pos : String} {af : Array Edge} {g : Option (Nat × Bool)}
theorem quon {t t' : TypeId} {x y : Operand} {k : IntKind} {a b r : Int} (hx : ρ x = .int k a) (hy : ρ y = .int k b) (hb : b ≠ 0) (hr : k.wrap (Int.tdiv a b) = r) : Qu P C ρ ⟨d, .binOp .quo t x y t', ty, pos, af, g⟩ (.int k r) :=
  qu_of_run fun w _ => by subst hr; simp [execOp, hx, hy, eqGuard, binOp, Op.intDiv, hb]
theorem ru8 {x : Int} (h : 0 ≤ x) (h' : x ≤ 255) : IntKind.u8.wrap x = x := by
  simp [IntKind.wrap, IntKind.signed, IntKind.bits]; omega
end
end Jal
namespace Go.Proofs.Ytkdbjhlkahkobaa
open Jal Go.RowKit
set_option maxRecDepth 100000
def numB (x : Nat) : List Int := if _h : 0 < x / 128 then ((x % 128 + 128 : Nat) : Int) :: numB (x / 128) else [(x : Int)]
termination_by x
decreasing_by omega
theorem numB_more {x : Nat} (h : 0 < x / 128) : numB x = ((x % 128 + 128 : Nat) : Int) :: numB (x / 128) := by rw [numB, dif_pos h]
theorem numB_last {x : Nat} (h : ¬ 0 < x / 128) : numB x = [(x : Int)] := by rw [numB, dif_neg h]
def bv (l : List Int) : List Value := l.map (.int .u8)
theorem el56 : ElT Try.prog 56 5 1 1 := by
  obtain ⟨i, h1, h2, h3, h4⟩ := info_parts (P := Try.prog) (e := 5) (z := .int .u8 0) (size := 1) (bytes := 1) (by kernel_rfl)
  exact ⟨i, _, Try.underlying56, h1, h2, h3, h4, rfl, by decide⟩
theorem bs56 (a : Int) : ∀ w : World, (Instr.buildSlice 56 1 #[(0, .int .u8 a)]).run Try.prog w = .ok (.slice (some ⟨w.heap.size, 0, none⟩) 1 1) (w.alloc (.cells [.int .u8 a].toArray 5)) := fun w => by kernel_rfl
theorem quo128 (y : Nat) (h : y < 18446744073709551616) : IntKind.u64.wrap (Int.tdiv (y : Int) 128) = ((y / 128 : Nat) : Int) := by
  rw [show Int.tdiv (y : Int) 128 = ((y / 128 : Nat) : Int) from (Int.ofNat_tdiv y 128).symm]
  exact ru (by omega) (by omega)
theorem len64 {y n x : Nat} (h : y * 2 ^ n ≤ x) (hy : 0 < y) (hx : x < 18446744073709551616) : n < 64 := by
  rcases Nat.lt_or_ge n 64 with h1 | h1
  · exact h1
  · have h2 : 2 ^ 64 ≤ 2 ^ n := Nat.pow_le_pow_right (by decide) h1
    have h3 : 1 * 2 ^ n ≤ y * 2 ^ n := Nat.mul_le_mul_right _ hy
    omega
theorem half {y n x : Nat} (h : y * 2 ^ n ≤ x) : y / 128 * 2 ^ (n + 1) ≤ x := by
  have h1 : y / 128 * 2 ≤ y := by omega
  have h2 : y / 128 * 2 * 2 ^ n ≤ y * 2 ^ n := Nat.mul_le_mul_right _ h1
  rw [Nat.pow_succ, Nat.mul_comm (2 ^ n) 2, ← Nat.mul_assoc]
  omega
theorem numB_len : ∀ (k x : Nat), x < 2 ^ k → (numB x).length ≤ k + 1
  | 0, x, h => by
    have h0 : x = 0 := by simpa using h
    subst h0
    rw [numB_last (by decide)]; exact Nat.le_refl _
  | k + 1, x, h => by
    by_cases hp : 0 < x / 128
    · rw [numB_more hp]
      have h1 : x / 128 < 2 ^ k := by rw [Nat.pow_succ] at h; omega
      have := numB_len k _ h1
      simp only [List.length_cons]; omega
    · rw [numB_last hp]; simp
theorem numB_pos (x : Nat) : 0 < (numB x).length := by
  by_cases hp : 0 < x / 128
  · rw [numB_more hp]; simp
  · rw [numB_last hp]; simp
def u64N (a : Int) : Nat := (IntKind.u64.wrap a).toNat
theorem u64N_eq (a : Int) : ((u64N a : Nat) : Int) = IntKind.u64.wrap a ∧ u64N a < 18446744073709551616 := by
  unfold u64N
  have h1 : 0 ≤ IntKind.u64.wrap a ∧ IntKind.u64.wrap a < 18446744073709551616 := by
    simp [IntKind.wrap, IntKind.signed, IntKind.bits]; omega
  omega
def aL (n : Nat) (f : Nat → Int) : List Int := (List.range n).map f
theorem bv_aL (n : Nat) (f : Nat → Int) : bv (aL n f) = arr .u8 n f := by
  unfold bv aL arr
  rw [List.map_map]; rfl
theorem bv_one (l : List Int) : ∀ u ∈ bv l, u.oneCell' = true := by
  intro u hu
  obtain ⟨a, _, rfl⟩ := List.mem_map.1 hu; rfl
theorem bv_len (l : List Int) : (bv l).length = l.length := by unfold bv; rw [List.length_map]
theorem bv_app (a b : List Int) : bv (a ++ b) = bv a ++ bv b := by unfold bv; rw [List.map_append]
/-- what a row of our own holds -/
theorem own_mem {w0 w : World} {H oe : List Ent} {p : Option Addr} {m c : Nat} {xs : List Value} (h : OwnL 5 1 (.slice p m c) m xs oe) (hw : Sat w0 H w) (hs : oe.Sublist H) (hm : 0 < m) : ∃ ad, p = some ad ∧ Mem w ad xs := by
  rcases h.2 with ⟨_, h0, _⟩ | ⟨g, cap, cur, h1, rfl, _, _, _, ht⟩
  · omega
  · cases h1
    refine ⟨_, rfl, ?_⟩
    have h2 := (hw.sub hs).mem (i := 0) (e := ⟨g, cur, 5⟩) rfl 0
    intro j v hv
    refine h2 j v ?_
    rw [← ht, List.getElem?_take] at hv
    split at hv
    · simpa using hv
    · cases hv
def flatI (n : Nat) (f : Nat → List Int) : List Int := (List.range n).flatMap f
def coreBy (h : Hd) : List Int := numB (u64N h.writer) ++ numB (u64N h.seq) ++ aL 32 h.prev ++ numB (u64N h.epoch) ++ [bif h.control then 1 else 0] ++ numB (u64N h.time) ++ aL 16 h.item ++ numB h.tn ++ flatI h.tn (fun i => aL 16 (h.tok i)) ++
  flatI 6 (fun i => numB (u64N (h.knows i))) ++ aL 32 h.sum ++ numB (u64N h.size)
/-- the bytes of a header: none of one that is not formed -/
def hdBy (h : Hd) : List Int := bif !rformedH h then [] else coreBy h ++ aL 32 h.code
end Go.Proofs.Ytkdbjhlkahkobaa
/- walks, printed by a program of ours -/
namespace Go.Proofs.Ytkdbjhlkahkobaa
open Jal Go.RowKit
set_option maxRecDepth 100000
theorem num_calls (x : Nat) (hx : x < 18446744073709551616) (w : World) : Calls Try.prog 137 #[.int .u64 (x : Int)] w (RetM (fun v Hn => OwnL 5 1 v (numB x).length (bv (numB x)) Hn) w) := by
  refine fn_calls (n := 21) Try.func137 rfl rfl (lb rfl) ?_
  refine cseq ?_
  refine creg ?_
  refine l1 (asg rfl) ?_
  refine lnil ?_
  refine nthen ?_
  refine cseq ?_
  refine creg ?_
  refine l1 (asg rfl) ?_
  refine lnil ?_
  refine nthen ?_
  refine cseq ?_
  refine cblock ?_
  refine cloopI (σ := Nat × List Int × Value × List Ent) (fun s => [(0, .int .u64 (s.1 : Int)), (3, s.2.2.1)]) (fun s => ([] ++ (s.2.2.2))) (fun s => numB x = s.2.1 ++ numB s.1 ∧ OwnL 5 1 s.2.2.1 s.2.1.length (bv s.2.1) s.2.2.2 ∧ s.1 * 2 ^ s.2.1.length ≤ x ∧ (s.2.1 = [] ∨ 0 < s.1)) (fun s => s.1) (x, [], .slice none 0 0, []) ⟨rfl, OwnL.nil 5 1, by simp, .inl rfl⟩ ⟨rfl, rfl, trivial⟩ (List.Sublist.refl _) ?_
  rintro ⟨y, acc, v3, oe⟩ j hI; replace hI : numB x = acc ++ numB y ∧ OwnL 5 1 v3 acc.length (bv acc) oe ∧ y * 2 ^ acc.length ≤ x ∧ (acc = [] ∨ 0 < y) := hI; obtain ⟨p3, c3, rfl⟩ := hI.2.1.form
  show WC _ _ _ ((oe)) _ _ (over j [(0, .int .u64 (y : Int)), (3, .slice p3 acc.length c3)])
  replace hI : numB x = acc ++ numB y ∧ OwnL 5 1 (.slice p3 acc.length c3) acc.length (bv acc) oe ∧ y * 2 ^ acc.length ≤ x ∧ (acc = [] ∨ 0 < y) := hI; have hown := hI.2.1; have hyx : y ≤ x := Nat.le_trans (Nat.le_mul_of_pos_right _ (Nat.two_pow_pos _)) hI.2.2.1
  refine cseq ?_
  refine cseq ?_
  refine creg ?_
  refine l1 (mvi rfl) ?_
  refine l1 (quon rfl rfl (by decide) (quo128 y (by omega))) ?_
  refine l1 (gtr rfl rfl) ?_
  refine lnil ?_
  refine nthen ?_
  refine cif rfl (fun h1 => ?_) (fun h1 => ?_)
  · have hpos : 0 < y / 128 := by (have := dt h1; omega)
    have h64 := len64 hI.2.2.1 (by omega) hx
    refine cskip ?_
    refine nthen ?_
    refine cblock ?_
    refine cseq ?_
    refine creg ?_
    refine l1 (mvs rfl) ?_
    refine l1 (mvi rfl) ?_
    refine l1 (remn (r := ((y % 128 : Nat) : Int)) rfl rfl (by decide) (Int.ofNat_tmod _ _).symm) ?_
    refine l1 (addn rfl rfl (ru (by omega) (by omega))) ?_
    refine l1 (cvn (a := ((y % 128 + 128 : Nat) : Int)) ⟨_, Try.underlying22⟩ Try.underlying5 rfl (ru8 (by omega) (by omega))) ?_
    refine lbs Try.underlying56 rfl (bs56 _) (fun b1 => ?_)
    refine wl_perm (ins_perm 0 _ _) ?_
    refine lapp [_] [] oe el56 (by rw [List.append_nil]; rfl) rfl hown rfl (news := [.int .u8 ((y % 128 + 128 : Nat) : Int)]) rfl (fun w' hw => by have := hw.mem (i := 0) rfl 0; simpa using this) (one1 rfl) (by decide) (by unfold maxLen; omega) (by omega) ?_
    intro g cap oe' hown'
    rw [List.append_nil]
    refine l1 (asg rfl) ?_
    refine lnil ?_
    refine nthen ?_
    refine creg ?_
    refine l1 (mvi rfl) ?_
    refine l1 (quon rfl rfl (by decide) (quo128 y (by omega))) ?_
    refine l1 (asgi rfl) ?_
    refine lnil ?_
    refine nblkN ?_
    exact nI (y / 128, acc ++ [((y % 128 + 128 : Nat) : Int)], .slice (some ⟨g, 0, none⟩) (acc.length + 1) cap, oe') ⟨by rw [hI.1, numB_more hpos, List.append_assoc]; rfl, by unfold bv; rw [List.length_append, List.map_append]; exact hown', by rw [List.length_append]; exact half hI.2.2.1, .inr hpos⟩ (by show y / 128 < y; omega) ⟨rfl, rfl, trivial⟩ (List.Sublist.cons _ (List.Sublist.refl _))
  · have hpos : ¬ 0 < y / 128 := by (have := df h1; omega)
    have h64 : acc.length < 65 := hI.2.2.2.elim (fun h => by rw [h]; decide) (fun h => Nat.lt_succ_of_lt (len64 hI.2.2.1 h hx))
    refine cexit ?_
    refine nthenE ?_
    refine nIE ?_
    refine nblkE ?_
    refine nthen ?_
    refine cseq ?_
    refine creg ?_
    refine l1 (mvs rfl) ?_
    refine l1 (mvi rfl) ?_
    refine l1 (cvn ⟨_, Try.underlying22⟩ Try.underlying5 rfl (ru8 (by omega) (by omega))) ?_
    refine lbs Try.underlying56 rfl (bs56 _) (fun b2 => ?_)
    refine wl_perm (ins_perm 0 _ _) ?_
    refine lapp [_] [] oe el56 (by rw [List.append_nil]; rfl) rfl hown rfl (news := [.int .u8 (y : Int)]) rfl (fun w' hw => by have := hw.mem (i := 0) rfl 0; simpa using this) (one1 rfl) (by decide) (by unfold maxLen; omega) (by omega) ?_
    intro g cap oe' hown'
    rw [List.append_nil]
    refine l1 (asg rfl) ?_
    refine lnil ?_
    refine nthen ?_
    refine cret ?_
    exact finM (.slice (some ⟨g, 0, none⟩) (acc.length + 1) cap) oe' (rv1 rfl (rvt rfl)) ⟨oe', List.Perm.refl _, List.Sublist.cons _ (List.Sublist.refl _)⟩ (by rw [hI.1, numB_last hpos]; unfold bv; rw [List.length_append, List.map_append]; exact hown')

def eqS (n : Nat) (t : Nat → ByteArray) (m : Nat) (u : Nat → ByteArray) : Bool := bif decide ((n : Int) ≠ (m : Int)) then false else (List.range n).all fun i => (t i).toList == (u i).toList
theorem eqS_ne {n m : Nat} {t u : Nat → ByteArray} (h : decide ((n : Int) ≠ (m : Int)) = true) : eqS n t m u = false := by unfold eqS; rw [h]; rfl
theorem eqS_no {n m i : Nat} {t u : Nat → ByteArray} (h : decide ((n : Int) ≠ (m : Int)) = false) (hi : i < n) (hne : ((t i).toList == (u i).toList) = false) : eqS n t m u = false := by
  unfold eqS; rw [h]
  cases hf : (List.range n).all fun i => (t i).toList == (u i).toList with
  | false => rfl
  | true => have := List.all_eq_true.1 hf i (List.mem_range.2 hi); rw [hne] at this; cases this
theorem eqS_yes {n m : Nat} {t u : Nat → ByteArray} (h : decide ((n : Int) ≠ (m : Int)) = false) (hall : ∀ i, i < n → ((t i).toList == (u i).toList) = true) : eqS n t m u = true := by
  unfold eqS; rw [h]
  exact List.all_eq_true.2 fun i hi => hall i (List.mem_range.1 hi)

theorem eqS_calls (w : World) (p : Option Addr) (n c : Nat) (t : Nat → ByteArray) (q : Option Addr) (m d : Nat) (u : Nat → ByteArray) (hn : (n : Int) ≤ 9223372036854775807) (hl : Sl w p n 1 (fun i => encT (t i))) (hk : Sl w q m 1 (fun i => encT (u i))) : Calls Try.prog 91 #[.slice p n c, .slice q m d] w (Ret (.bool (eqS n t m u)) w) := by
  refine fn_calls (n := 26) Try.func91 rfl rfl (lb rfl) ?_
  refine cseq ?_
  refine creg ?_
  refine l1 (asgb rfl) ?_
  refine lnil ?_
  refine nthen ?_
  refine cseq ?_
  refine cseq ?_
  refine creg ?_
  refine l1 (mvs rfl) ?_
  refine l1 (lens sl75 rfl rfl) ?_
  refine l1 (mvs rfl) ?_
  refine l1 (lens sl75 rfl rfl) ?_
  refine l1 (neq rfl rfl) ?_
  refine lnil ?_
  refine nthen ?_
  refine cif rfl (fun h1 => ?_) (fun h1 => ?_)
  · skip
    refine cseq ?_
    refine creg ?_
    refine l1 (asgb rfl) ?_
    refine lnil ?_
    refine nthen ?_
    refine cret ?_
    refine nthenR ?_
    exact fin1b rfl rfl ((eqS_ne h1).symm)
  · have hnm : n = m := by (have := df2 h1; omega)
    refine cskip ?_
    refine nthen ?_
    refine cseq ?_
    refine cseq ?_
    refine creg ?_
    refine l1 (mvs rfl) ?_
    refine l1 (lens sl75 rfl rfl) ?_
    refine l1 (mvi rfl) ?_
    refine lnil ?_
    refine nthen ?_
    refine cblock ?_
    refine cloopI (σ := Nat) (fun s => [(0, .slice p n c), (1, .slice q m d), (12, .int .i64 (n : Int)), (13, .int .i64 (s : Int))]) (fun s => []) (fun s => s ≤ n ∧ ∀ j, j < s → ((t j).toList == (u j).toList) = true) (fun s => n - s) 0 ⟨Nat.zero_le _, fun j hj => by omega⟩ ⟨rfl, rfl, rfl, rfl, trivial⟩ (List.Sublist.refl _) ?_
    rintro i j hI
    show WC _ _ _ ([]) _ _ (over j [(0, .slice p n c), (1, .slice q m d), (12, .int .i64 (n : Int)), (13, .int .i64 (i : Int))])
    replace hI : i ≤ n ∧ ∀ j, j < i → ((t j).toList == (u j).toList) = true := hI
    refine cseq ?_
    refine creg ?_
    refine l1 (lss rfl rfl) ?_
    refine lnil ?_
    refine nthen ?_
    refine cseq ?_
    refine cif rfl (fun h2 => ?_) (fun h2 => ?_)
    · have hlt : i < n := by (have := dt h2; omega)
      obtain ⟨b, o, hp, hbl, hm⟩ := hl.at hlt
      obtain ⟨b2, o2, hq, hbl2, hm2⟩ := hk.at (i := i) (by omega)
      refine cskip ?_
      refine nthen ?_
      refine cseq ?_
      refine cblock ?_
      refine cseq ?_
      refine creg ?_
      refine l1 (mvi rfl) ?_
      refine l1 (asgi rfl) ?_
      refine lnil ?_
      refine nthen ?_
      refine cseq ?_
      refine cregq mo (by kernel_rfl) ?_
      refine q1 (mvs rfl) ?_
      refine q1 (mvi rfl) ?_
      refine q1 (isp sl75 hp rfl rfl (by omega) (by omega)) ?_
      refine q1 (ldm (v := .string (t i)) Try.isAgg9 rfl (fun w' hw => ((hm i (by omega)).kept hw.below hbl).c0)) ?_
      refine q1 (mvs rfl) ?_
      refine q1 (mvi rfl) ?_
      refine q1 (isp sl75 hq rfl rfl (by omega) (by omega)) ?_
      refine q1 (ldm (v := .string (u i)) Try.isAgg9 rfl (fun w' hw => ((hm2 i (by omega)).kept hw.below hbl2).c0)) ?_
      refine q1 (neqs rfl rfl) ?_
      refine qnil ?_
      refine nthen ?_
      refine cif rfl (fun h3 => ?_) (fun h3 => ?_)
      · skip
        refine cseq ?_
        refine creg ?_
        refine l1 (asgb rfl) ?_
        refine lnil ?_
        refine nthen ?_
        refine cret ?_
        refine nblkR ?_
        refine nthenR ?_
        refine nIR ?_
        refine nblkR ?_
        refine nthenR ?_
        exact fin1b rfl rfl ((eqS_no h1 hlt (by simpa using h3)).symm)
      · skip
        refine cskip ?_
        refine nblkN ?_
        refine nthen ?_
        refine creg ?_
        first | refine l1 (addn rfl rfl (ri (by omega) (by omega))) ?_ | refine l1 (add rfl rfl) ?_
        refine l1 (mvi rfl) ?_
        refine lnil ?_
        exact nI (i + 1) ⟨by omega, fun j hj => (Nat.lt_succ_iff_lt_or_eq.1 hj).elim (fun h => hI.2 j h) (fun h => by subst h; simpa using h3)⟩ (by show n - (i + 1) < n - i; omega) ⟨rfl, rfl, rfl, rfl, trivial⟩ (List.Sublist.refl _)
    · have hge : n ≤ i := by (have := df h2; omega)
      refine cexit ?_
      refine nthenE ?_
      refine nIE ?_
      refine nblkE ?_
      refine nthen ?_
      refine cseq ?_
      refine creg ?_
      refine l1 (asgb rfl) ?_
      refine lnil ?_
      refine nthen ?_
      refine cret ?_
      exact fin1b rfl rfl ((eqS_yes h1 (fun j hj => hI.2 j (by omega))).symm)

structure ItSat (w : World) (i : It) : Prop where
  h : HdIn w i.hd
  g : Sl w i.gp i.gn 1 (fun k => encT (i.tag k))
theorem ItIn.sat {w0 w : World} {H : List Ent} {i : It} (h : ItIn H i) (hw : Sat w0 H w) : ItSat w i := ⟨SlIn.sl h.h hw, SlIn.sl h.g hw⟩
theorem ItSat.keptS {w0 w : World} {H : List Ent} {i : It} (h : ItSat w0 i) (hw : Sat w0 H w) : ItSat w i := ⟨Sl.keptS h.h hw, Sl.keptS h.g hw⟩
def sameI (a b : It) : Bool := (((((eqA 16 a.tok b.tok && sameH a.hd b.hd) && (a.known == b.known)) && (a.alive == b.alive)) && (a.name.toList == b.name.toList)) && eqS a.gn a.tag b.gn b.tag) && (a.value.toList == b.value.toList)

set_option maxHeartbeats 1000000 in
theorem sameI_calls (a b : It) (w : World) (ha : ItSat w a) (hb : ItSat w b) (ka : HdOk a.hd) (hn : (a.gn : Int) ≤ 9223372036854775807) : Calls Try.prog 55 #[.agg (encI a).toArray, .agg (encI b).toArray] w (Ret (.bool (sameI a b)) w) := by
  refine fn_calls (n := 52) Try.func55 rfl rfl (lb rfl) ?_
  refine cseq ?_
  refine creg ?_
  refine lbxa rfl (fun b1 => ?_)
  refine lbxa rfl (fun b2 => ?_)
  refine l1 (asgb rfl) ?_
  refine lnil ?_
  refine nthen ?_
  refine cseq ?_
  refine creg ?_
  refine l1 (fa fa83_0 rfl) ?_
  refine l1 (lda 0 Try.isAgg34 Try.sizeOf34 rfl rfl (encI_tok _) rfl) ?_
  refine l1 (fa fa83_0 rfl) ?_
  refine l1 (lda 1 Try.isAgg34 Try.sizeOf34 rfl rfl (encI_tok _) rfl) ?_
  refine l1 (eqla rfl rfl (fun w => eql34 _ _ w)) ?_
  refine l1 (mvb rfl) ?_
  refine l1g rfl (gwt rfl) (fun h => fa fa83_1 rfl) ?_
  refine l1g rfl (gwt rfl) (fun h => lda 0 Try.isAgg37 Try.sizeOf37 rfl (gvt h) (encI_hd _) rfl) ?_
  refine l1g rfl (gwt rfl) (fun h => fa fa83_1 rfl) ?_
  refine l1g rfl (gwt rfl) (fun h => lda 1 Try.isAgg37 Try.sizeOf37 rfl (gvt h) (encI_hd _) rfl) ?_
  refine l1g rfl (gwt rfl) (fun h => cl hb47 rfl (mc (gvt h) (mc (gvt h) mn)) (fun w hw => sameH_calls _ _ w (Sl.keptS ha.h hw) (Sl.keptS hb.h hw) ka)) ?_
  refine l1 (pk_and rfl rfl rfl) ?_
  refine l1 (mvb rfl) ?_
  refine l1g rfl (gwt rfl) (fun h => fa fa83_2 rfl) ?_
  refine l1g rfl (gwt rfl) (fun h => ldc 0 Try.isAgg4 rfl (gvt h) rfl) ?_
  refine l1g rfl (gwt rfl) (fun h => fa fa83_2 rfl) ?_
  refine l1g rfl (gwt rfl) (fun h => ldc 1 Try.isAgg4 rfl (gvt h) rfl) ?_
  refine l1g rfl (gwt rfl) (fun h => eqlb Try.underlying4 (gvt h) (gvt h)) ?_
  refine l1 (pk_and rfl rfl rfl) ?_
  refine l1 (mvb rfl) ?_
  refine l1g rfl (gwt rfl) (fun h => fa fa83_3 rfl) ?_
  refine l1g rfl (gwt rfl) (fun h => ldc 0 Try.isAgg4 rfl (gvt h) rfl) ?_
  refine l1g rfl (gwt rfl) (fun h => fa fa83_3 rfl) ?_
  refine l1g rfl (gwt rfl) (fun h => ldc 1 Try.isAgg4 rfl (gvt h) rfl) ?_
  refine l1g rfl (gwt rfl) (fun h => eqlb Try.underlying4 (gvt h) (gvt h)) ?_
  refine l1 (pk_and rfl rfl rfl) ?_
  refine l1 (mvb rfl) ?_
  refine l1g rfl (gwt rfl) (fun h => fa fa83_4 rfl) ?_
  refine l1g rfl (gwt rfl) (fun h => ldc 0 Try.isAgg9 rfl (gvt h) rfl) ?_
  refine l1g rfl (gwt rfl) (fun h => fa fa83_4 rfl) ?_
  refine l1g rfl (gwt rfl) (fun h => ldc 1 Try.isAgg9 rfl (gvt h) rfl) ?_
  refine l1g rfl (gwt rfl) (fun h => eqls (gvt h) (gvt h)) ?_
  refine l1 (pk_and rfl rfl rfl) ?_
  refine l1 (mvb rfl) ?_
  refine l1g rfl (gwt rfl) (fun h => fa fa83_5 rfl) ?_
  refine l1g rfl (gwt rfl) (fun h => ldc 0 Try.isAgg75 rfl (gvt h) rfl) ?_
  refine l1g rfl (gwt rfl) (fun h => fa fa83_5 rfl) ?_
  refine l1g rfl (gwt rfl) (fun h => ldc 1 Try.isAgg75 rfl (gvt h) rfl) ?_
  refine l1g rfl (gwt rfl) (fun h => cl hb91 rfl (mc (gvt h) (mc (gvt h) mn)) (fun w hw => eqS_calls w _ _ _ _ _ _ _ _ hn (Sl.keptS ha.g hw) (Sl.keptS hb.g hw))) ?_
  refine l1 (pk_and rfl rfl rfl) ?_
  refine l1 (mvb rfl) ?_
  refine l1g rfl (gwt rfl) (fun h => fa fa83_6 rfl) ?_
  refine l1g rfl (gwt rfl) (fun h => ldc 0 Try.isAgg9 rfl (gvt h) rfl) ?_
  refine l1g rfl (gwt rfl) (fun h => fa fa83_6 rfl) ?_
  refine l1g rfl (gwt rfl) (fun h => ldc 1 Try.isAgg9 rfl (gvt h) rfl) ?_
  refine l1g rfl (gwt rfl) (fun h => eqls (gvt h) (gvt h)) ?_
  refine l1 (pk_and rfl rfl rfl) ?_
  refine l1 (asgb rfl) ?_
  refine lnil ?_
  refine nthen ?_
  refine cret ?_
  exact fin1b rfl rfl rfl
end Go.Proofs.Ytkdbjhlkahkobaa
/- the sort's comparison: what it does to the world, to the draw -/
namespace Go.Proofs.Ytkdbjhlkahkobaa
open Jal Go.RowKit Go.Shelf Go.Lib Go.Sort
set_option maxRecDepth 100000
theorem bcmp_exact (p q : Option Addr) (n m c d : Nat) (xs ys : List Int) (w : World) (hx : BySl w p n xs) (hy : BySl w q m ys) (hxr : ∀ x ∈ xs, 0 ≤ x ∧ x ≤ 255) (hyr : ∀ x ∈ ys, 0 ≤ x ∧ x ≤ 255) :
    Calls Try.prog 94 #[.slice p n c, .slice q m d] w (fun e w' => e = .returned (.int .i64 (lexI xs ys)) ∧ w' = w) := by
  have h := run_compare (P := Try.prog) (c := c) (d := d) hx hy hxr hyr
  have h5 : (callFunc 124 #[.slice p n c, .slice q m d]).run Try.prog w = .ok (.value (.int .i64 (lexI xs ys))) w := by
    obtain ⟨fn, h1, h2, h3, h4, h5⟩ := ex124.h
    have hr := run_callFunc_extern h1 h2 h3 h4 h5 #[.slice p n c, .slice q m d] w
    rw [h] at hr
    simpa [Result.andThen] using hr
  generalize lexI xs ys = r at h5 ⊢
  go_enter Try.func94, Try.ntmps94
  go_wp2
  go_ret
  exact ⟨rfl, rfl⟩
def tokB (t : Nat → Int) : Prop := ∀ j, j < 16 → 0 ≤ t j ∧ t j ≤ 255
theorem bySl_heap {w : World} {b : Nat} {x : It} (h : w.heap[b]? = some (.cells (encI x).toArray 83 (0, 0))) : BySl w (some ⟨b, 0, none⟩) 16 (tl 16 x.tok) := by
  refine ⟨by simp [tl], ⟨.inr ⟨b, 0, rfl, (Array.getElem?_eq_some_iff.1 h).1, fun i hi j v hv => ?_⟩⟩⟩
  match j with
  | 0 =>
    have hv' : Value.int .u8 ((tl 16 x.tok).getD i 0) = v := by simpa using hv
    rw [tl_getD hi] at hv'
    rw [Addr.add_off]
    simp only [World.cell?, h]
    suffices e : (encI x).toArray[0 + i * 1 + 0]? = some v by simpa using e
    rw [List.getElem?_toArray]
    rw [Nat.mul_one, Nat.add_zero, Nat.zero_add]
    unfold encI
    rw [List.getElem?_append_left (by rw [show (arr .u8 16 x.tok).length = 16 from rfl]; exact hi), arr_get hi, hv']
  | j + 1 => cases hv
theorem al2_1 (W : World) (a b : Obj) (n : Nat) : (((W.alloc a).alloc b).drewN n).heap[W.heap.size]? = some a := by
  show ((W.heap.push a).push b)[W.heap.size]? = _
  rw [Array.getElem?_push, if_neg (by rw [Array.size_push]; omega), Array.getElem?_push, if_pos rfl]
theorem al2_2 (W : World) (a b : Obj) (n : Nat) : (((W.alloc a).alloc b).drewN n).heap[W.heap.size + 1]? = some b := by
  show ((W.heap.push a).push b)[W.heap.size + 1]? = _
  rw [Array.getElem?_push, if_pos (by rw [Array.size_push])]
set_option maxHeartbeats 1000000 in
theorem closure93 (x y : It) (hx : tokB x.tok) (hy : tokB y.tok) (W : World) : Calls Try.prog 93 #[.agg (encI x).toArray, .agg (encI y).toArray] W fun e w' => e = .returned (.int .i64 (lexI (tl 16 x.tok) (tl 16 y.tok))) ∧ ∃ q os', w' = grow (W.drewN q) os' := by
  have hcon : ∀ W' : World, W'.heap[W.heap.size]? = some (.cells (encI x).toArray 83 (0, 0)) → W'.heap[W.heap.size + 1]? = some (.cells (encI y).toArray 83 (0, 0)) → Calls Try.prog 94 #[.slice (some ⟨W.heap.size, 0, none⟩) 16 16, .slice (some ⟨W.heap.size + 1, 0, none⟩) 16 16] W' (fun e w' => e = .returned (.int .i64 (lexI (tl 16 x.tok) (tl 16 y.tok))) ∧ w' = W') :=
    fun W' h1 h2 => bcmp_exact _ _ _ _ _ _ _ _ W' (bySl_heap h1) (bySl_heap h2) (tl_mem hx) (tl_mem hy)
  generalize lexI (tl 16 x.tok) (tl 16 y.tok) = r at hcon ⊢
  generalize (encI x).toArray = ax at hcon ⊢
  generalize (encI y).toArray = ay at hcon ⊢
  clear hx hy
  go_enter Try.func93, Try.ntmps93
  go_wp2_with (fail)
  go_quiet (first | (go_at_call 94; exact Calls.quiet_of_same (hcon _ (al2_1 W _ _ _) (al2_2 W _ _ _))))
  go_wp2_with (fail)
  go_ret
  exact ⟨rfl, nq, #[.cells ax 83, .cells ay 83], by rw [alloc_eq_grow, alloc_eq_grow, grow_grow]; rfl⟩
end Go.Proofs.Ytkdbjhlkahkobaa
/- items sorted by their tokens, in place -/
namespace Go.Proofs.Ytkdbjhlkahkobaa
open Jal Go.RowKit Go.Shelf Go.Lib Go.Sort
set_option maxRecDepth 100000
/-! ### the order of bytes -/
theorem lexI_tri : ∀ (xs ys : List Int), (lexI xs ys = -1 ∧ lexI ys xs = 1) ∨ (xs = ys ∧ lexI xs ys = 0 ∧ lexI ys xs = 0) ∨ (lexI xs ys = 1 ∧ lexI ys xs = -1)
  | [], [] => .inr (.inl ⟨rfl, rfl, rfl⟩)
  | [], _ :: _ => .inl ⟨rfl, rfl⟩
  | _ :: _, [] => .inr (.inr ⟨rfl, rfl⟩)
  | a :: xs, b :: ys => by
    have ih := lexI_tri xs ys
    unfold lexI
    by_cases h1 : a < b
    · have h2 : ¬ b < a := by omega
      exact .inl ⟨by simp [h1], by simp [h1, h2]⟩
    · by_cases h2 : b < a
      · exact .inr (.inr ⟨by simp [h1, h2], by simp [h2]⟩)
      · obtain rfl : a = b := by omega
        simpa [h1] using ih
theorem lexI_trans : ∀ (xs ys zs : List Int), lexI xs ys < 0 → lexI ys zs < 0 → lexI xs zs < 0
  | [], [], _, h, _ => by exact absurd h (by decide)
  | [], _ :: _, [], _, h => by exact absurd h (by show ¬ (1 : Int) < 0; decide)
  | [], _ :: _, _ :: _, _, _ => by show (-1 : Int) < 0; decide
  | _ :: _, [], _, h, _ => by exact absurd h (by show ¬ (1 : Int) < 0; decide)
  | _ :: _, _ :: _, [], _, h => by exact absurd h (by show ¬ (1 : Int) < 0; decide)
  | a :: xs, b :: ys, c :: zs, h1, h2 => by
    have ih := lexI_trans xs ys zs
    unfold lexI at h1 h2 ⊢
    simp only [cond_eq_ite, decide_eq_true_eq] at h1 h2 ⊢
    by_cases p1 : a < b
    · by_cases q1 : b < c
      · rw [if_pos (by omega)]; decide
      · rw [if_neg q1] at h2
        by_cases q2 : c < b
        · rw [if_pos q2] at h2; exact absurd h2 (by decide)
        · rw [if_pos (by omega)]; decide
    · rw [if_neg p1] at h1
      by_cases p2 : b < a
      · rw [if_pos p2] at h1; exact absurd h1 (by decide)
      · rw [if_neg p2] at h1
        by_cases q1 : b < c
        · rw [if_pos (by omega)]; decide
        · rw [if_neg q1] at h2
          by_cases q2 : c < b
          · rw [if_pos q2] at h2; exact absurd h2 (by decide)
          · rw [if_neg q2] at h2
            rw [if_neg (by omega), if_neg (by omega)]
            exact ih h1 h2
theorem lexI_neg {xs ys : List Int} (h : ¬ lexI xs ys < 0) : ys = xs ∨ lexI ys xs < 0 := by
  rcases lexI_tri xs ys with ⟨h1, _⟩ | ⟨h1, _⟩ | ⟨_, h1⟩
  · rw [h1] at h; exact absurd (by decide) h
  · exact .inl h1.symm
  · rw [h1]; exact .inr (by decide)
theorem lexI_self (xs : List Int) : lexI xs xs = 0 := by
  rcases lexI_tri xs xs with ⟨h1, h2⟩ | ⟨_, h1, _⟩ | ⟨h1, h2⟩
  · omega
  · exact h1
  · omega
theorem lexI_asym {xs ys : List Int} (h : lexI xs ys < 0) : ¬ lexI ys xs < 0 := by
  rcases lexI_tri xs ys with ⟨_, h1⟩ | ⟨_, _, h1⟩ | ⟨h1, _⟩ <;> omega
abbrev TIt := {i : It // tokB i.tok}
instance : Inhabited TIt := ⟨⟨iz, fun _ _ => by show (0 : Int) ≤ 0 ∧ (0 : Int) ≤ 255; decide⟩⟩
def encTI (i : TIt) : List Value := encI i.1
def tk (i : It) : List Int := tl 16 i.tok
def cfT (x y : TIt) : Int := lexI (tk x.1) (tk y.1)
theorem swoT : SWO (ltOf cfT) where
  irrefl x := by unfold ltOf cfT; rw [lexI_self]; rfl
  trans x y z h1 h2 := by
    unfold ltOf cfT at *
    rw [decide_eq_true_eq] at *
    exact lexI_trans _ _ _ h1 h2
  ntrans x y z h1 h2 := by
    unfold ltOf cfT at *
    rw [decide_eq_false_iff_not] at *
    rcases lexI_neg h1 with h3 | h3
    · rw [← h3]; exact h2
    · rcases lexI_neg h2 with h4 | h4
      · rw [h4]; exact h1
      · exact lexI_asym (lexI_trans _ _ _ h4 h3)
theorem cmpT (blk off size : Nat) (w : World) : Go.Proofs.CmpLays Try.prog 93 #[] encTI 146 cfT blk off size w :=
  fun _ _ _ _ x y => closure93 x.1 y.1 x.2 y.2 _
def liftT (L : List It) (h : ∀ i ∈ L, tokB i.tok) : List TIt := L.attach.map fun i => ⟨i.1, h i.1 i.2⟩
theorem liftT_map (L : List It) (h : ∀ i ∈ L, tokB i.tok) : (liftT L h).map (·.1) = L := by
  unfold liftT
  rw [List.map_map]
  exact List.attach_map_subtype_val L
theorem flatMap_val (l : List TIt) : l.flatMap encTI = (l.map (·.1)).flatMap encI := by rw [List.flatMap_map]; rfl
theorem flatK_list (d : Array TIt) : (flatK encTI 146 d).toList = d.toList.flatMap encTI := by
  have hf : ∀ a : TIt, (encTI a).length = 146 := fun a => encI_len a.1
  apply List.ext_getElem?
  intro t
  by_cases ht : t < d.size * 146
  · have h1 : t / 146 < d.size := Nat.div_lt_of_lt_mul (by rw [Nat.mul_comm]; exact ht)
    have h2 := flatM_get hf d.toList (t / 146) (t % 146) d[t / 146] (by rw [List.getElem?_eq_getElem (by rw [Array.length_toList]; exact h1)]; simp) (Nat.mod_lt _ (by decide))
    rw [show t / 146 * 146 + t % 146 = t by rw [Nat.mul_comm]; exact Nat.div_add_mod t 146] at h2
    rw [h2, List.getElem?_eq_getElem (by rw [Array.length_toList, size_flatK]; exact ht), Array.getElem_toList]
    have h3 := get_flatK encTI 146 d t ht
    rw [getElem!_pos _ t (by rw [size_flatK]; exact ht)] at h3
    rw [h3, getElem!_pos d _ h1]
    have h4 : t % 146 < (encTI d[t / 146]).length := by rw [hf]; exact Nat.mod_lt _ (by decide)
    rw [getElem!_pos (encTI d[t / 146]) (t % 146) h4, List.getElem?_eq_getElem h4]
  · rw [List.getElem?_eq_none (by rw [Array.length_toList, size_flatK]; omega), List.getElem?_eq_none (by rw [flatM_len hf, Array.length_toList]; omega)]
theorem putCells_list (F : Array Value) (cur : List Value) (h : F.size ≤ cur.length) : (putCells id 0 F cur.toArray).toList = F.toList ++ cur.drop F.size := by
  apply List.ext_getElem?
  intro k
  rw [Array.getElem?_toList]
  unfold putCells
  rw [Array.getElem?_mapIdx, List.getElem?_toArray]
  by_cases hk : k < F.size
  · rw [List.getElem?_append_left (by rw [Array.length_toList]; exact hk), List.getElem?_eq_getElem (show k < cur.length by omega), Option.map_some, if_pos ⟨Nat.zero_le _, by omega⟩, Nat.sub_zero, getElem!_pos F k hk, Array.getElem?_toList, Array.getElem?_eq_getElem hk]
    rfl
  · rw [List.getElem?_append_right (by rw [Array.length_toList]; omega), Array.length_toList, List.getElem?_drop, show F.size + (k - F.size) = k by omega]
    cases cur[k]? with
    | none => rfl
    | some x => rw [Option.map_some, if_neg (by omega)]
theorem sat_sorted {w0 w : World} {T : List Ent} {g : Nat} {cur : List Value} (hs : Sat w0 (⟨g, cur, 83⟩ :: T) w) (F : Array Value) (n : Nat) (os : Array Obj) (hF : F.size ≤ cur.length) :
    Sat w0 (⟨g, F.toList ++ cur.drop F.size, 83⟩ :: T) (grow (putRow id (Sort.ahead w n) g 0 F) os) := by
  have hg := hs.own ⟨g, cur, 83⟩ (by simp)
  have hsz := hs.size
  have hl : ∀ k, k < w.heap.size → (grow (putRow id (Sort.ahead w n) g 0 F) os).heap[k]? = if g = k then (w.heap[k]?).map (onCells (putCells id 0 F)) else w.heap[k]? := fun k hk => by
    show ((w.heap.modify g (onCells (putCells id 0 F))) ++ os)[k]? = _
    rw [Array.getElem?_append, if_pos (by rw [Array.size_modify]; exact hk), Array.getElem?_modify]
  refine ⟨?_, fun e he => ?_, ?_⟩
  · refine hs.below.trans ⟨rfl, rfl, rfl, by show w.heap.size ≤ ((w.heap.modify g _) ++ os).size; rw [Array.size_append, Array.size_modify]; omega, fun k hk => ?_⟩
    rw [hl k (by omega), if_neg (by have := hg.1; show ¬ g = k; simp only at this; omega)]
  · rcases List.mem_cons.1 he with rfl | he
    · refine ⟨hg.1, ?_⟩
      have hgl : g < w.heap.size := hs.lt (e := ⟨g, cur, 83⟩) (by simp)
      have hg2 : w.heap[g]? = some (.cells cur.toArray 83 (0, 0)) := hg.2
      show (grow _ os).heap[g]? = _
      rw [hl g hgl, if_pos rfl, hg2]
      show some (Obj.cells (putCells id 0 F cur.toArray) 83 (0, 0)) = _
      rw [← putCells_list F cur hF, Array.toArray_toList]
    · have h1 := hs.own e (List.mem_cons_of_mem _ he)
      have h2 : g ≠ e.b := (List.pairwise_cons.1 hs.apart).1 e he
      exact ⟨h1.1, by rw [hl e.b (hs.lt (List.mem_cons_of_mem _ he)), if_neg h2]; exact h1.2⟩
  · obtain ⟨h1, h2⟩ := List.pairwise_cons.1 hs.apart
    exact List.pairwise_cons.2 ⟨h1, h2⟩
def SortedI (L : List It) : Prop := L.Pairwise fun a b => ¬ lexI (tk b) (tk a) < 0
theorem sortI_calls (w0 w : World) (T oe : List Ent) (v : Value) (L : List It) (hL : ∀ i ∈ L, tokB i.tok) (hlen : L.length ≤ 1000) (hs : Sat w0 (oe ++ T) w) (ho : OwnL 83 146 v L.length (L.flatMap encI) oe) :
    Calls Try.prog 92 #[v, .func (.func 93) #[] #[]] w (RetS w0 (fun r H' => r = .tuple #[] ∧ ∃ L' oe', H' = oe' ++ T ∧ OwnL 83 146 v L'.length (L'.flatMap encI) oe' ∧ L'.Perm L ∧ SortedI L')) := by
  rcases ho.2 with ⟨rfl, h0, rfl⟩ | ⟨g, cap, cur, rfl, rfl, hn, hcm, hcl, hct⟩
  · obtain rfl : L = [] := List.eq_nil_of_length_eq_zero h0
    refine (AnyF.slices_SortFunc_none Try.sortIt none 0 (.func (.func 93) #[] #[]) w).mono ?_
    rintro e w' ⟨rfl, rfl⟩
    exact ⟨_, T, rfl, ⟨rfl, [], [], rfl, OwnL.nil 83 146, List.Perm.refl _, List.Pairwise.nil⟩, hs⟩
  · have hs' : Sat w0 (⟨g, cur, 83⟩ :: T) w := hs
    have hgl : g < w.heap.size := hs'.lt (e := ⟨g, cur, 83⟩) (by simp)
    have hg2 : w.heap[g]? = some (.cells cur.toArray 83 (0, 0)) := (hs'.own ⟨g, cur, 83⟩ (by simp)).2
    have hsize : (liftT L hL).toArray.size = L.length := by
      rw [List.size_toArray, ← List.length_map (f := (·.1)), liftT_map]
    have hnl : L.length * 146 ≤ cur.length := by rw [hcl]; exact Nat.mul_le_mul_right _ hn
    have hflat : (flatK encTI 146 (liftT L hL).toArray).toList = L.flatMap encI := by rw [flatK_list, List.toList_toArray, flatMap_val, liftT_map]
    have hH : HoldsK encTI 146 w g 0 (liftT L hL).toArray := by
      intro j hj
      rw [size_flatK, hsize] at hj
      have h1 : (flatK encTI 146 (liftT L hL).toArray)[j]? = cur[j]? := by
        rw [← Array.getElem?_toList, hflat, ← hct, List.getElem?_take, if_pos hj]
      have hjs : j < (flatK encTI 146 (liftT L hL).toArray).size := by rw [size_flatK, hsize]; exact hj
      refine ⟨?_, ?_⟩
      · simp only [World.cell?, hg2]
        rw [Array.getElem?_eq_getElem hjs] at h1
        rw [getElem!_pos _ j hjs]
        simpa using h1.symm
      · simp [World.frozen?, hg2]
    have key := AnyQ.slices_SortFunc Try.sortIt 146 Try.isAgg83 Try.sizeOf83 encTI (fun x => encI_len x.1) (fun x => encI_one x.1) cfT swoT 93 #[] g 0 cap (liftT L hL).toArray w
      (enters_of Try.func93 (by kernel_rfl) rfl) (cmpT g 0 _ w) hH hgl (by rw [hsize]; omega)
    rw [hsize] at key
    refine key.mono ?_
    rintro e w' ⟨rfl, d', n, os, hp, hsrt, rfl⟩
    obtain ⟨hp1, _, hp3⟩ := hp
    have hd : d'.size = L.length := hp1.trans hsize
    have hperm : (d'.toList.map (·.1)).Perm L := by
      have e1 : d'.extract 0 L.length = d' := by rw [← hd]; exact Array.extract_size
      have e2 : (liftT L hL).toArray.extract 0 L.length = (liftT L hL).toArray := by
        have := Array.extract_size (xs := (liftT L hL).toArray)
        rwa [hsize] at this
      rw [e1, e2] at hp3
      have := hp3.map (·.1)
      rwa [List.toList_toArray, liftT_map] at this
    have hF : (flatK encTI 146 d').size ≤ cur.length := by rw [size_flatK, hd]; exact hnl
    have hfl2 : (flatK encTI 146 d').toList = (d'.toList.map (·.1)).flatMap encI := by rw [flatK_list, flatMap_val]
    have hll : (d'.toList.map (·.1)).length = L.length := by rw [List.length_map, Array.length_toList, hd]
    refine ⟨_, _, rfl, ⟨rfl, d'.toList.map (·.1), [⟨g, (flatK encTI 146 d').toList ++ cur.drop (flatK encTI 146 d').size, 83⟩], rfl, ?_, hperm, ?_⟩, sat_sorted hs' (flatK encTI 146 d') n os hF⟩
    · rw [hll]
      refine ⟨by rw [flatM_len encI_len, hll], .inr ⟨g, cap, _, rfl, rfl, hn, hcm, ?_, ?_⟩⟩
      · rw [List.length_append, List.length_drop, Array.length_toList, size_flatK, hd, ← hcl]; omega
      · rw [← hfl2, List.take_left' (by rw [Array.length_toList, size_flatK, hd])]
    · unfold SortedI
      rw [List.pairwise_map, List.pairwise_iff_getElem]
      intro i j hi hj hij
      rw [Array.length_toList] at hi hj
      have h1 := hsrt i j (Nat.zero_le _) hij (by rw [← hd]; exact hj)
      rw [getElem!_pos d' i hi, getElem!_pos d' j hj] at h1
      unfold ltOf cfT at h1
      rw [decide_eq_false_iff_not] at h1
      simpa using h1
end Go.Proofs.Ytkdbjhlkahkobaa
/- a call under a guard that hands back memory -/
namespace Jal
open Go Go.RowKit
section
variable {P : Program} {ops : Array Oper} {Q : Exit → Act → World → Prop} {w0 : World} {H : List Ent} {rest : List Oper} {n : Nat} {F : Nat → Value} {d : Nat} {ty : TypeId} {pos : String} {af : Array Edge}
theorem lclmg {j dj : Nat} {want g : Bool} {f : FuncId} {fx : Operand} {xs : List Operand} {ats : Array TypeId} {args : List Value} {φ : Value → List Ent → Prop} (hj : (ops[j]?).bind (·.dst) = some dj) (hg : GW (ev n F (.tmp dj)) want g)
    (hb : HasBody P f) (hfx : ev n F fx = .func (.func f) #[] #[]) (hx : g = true → xs.map (ev n F) = args) (hc : g = true → ∀ w, Sat w0 H w → Calls P f args.toArray w (RetM φ w))
    (h : ∀ v Hn, (g = true → φ v Hn) → WL P ops Q w0 (H ++ Hn) rest n (upd F d (gv g v))) :
    WL P ops Q w0 H (⟨some d, .call { callee := .value fx, args := xs.toArray, argTypes := ats }, ty, pos, af, some (j, want)⟩ :: rest) n F :=
  fun w hw => wpList_step fun K hK => by
  rw [wanted_fr rfl hj hg]
  cases g with
  | true =>
    rw [if_pos rfl]
    obtain ⟨fn, h1, h2, h3⟩ := hb.h
    obtain ⟨c, hcb⟩ := Option.isSome_iff_exists.1 h3
    have h2' : fn.name ≠ "runtime.NumGoroutine" := by simpa using h2
    have hr : (execOp (ev n F) ⟨some d, .call { callee := .value fx, args := xs.toArray, argTypes := ats }, ty, pos, af, some (j, want)⟩).run P w = .ok (.enter f args.toArray) w := by
      simp [execOp, resolve, hfx, hx rfl, Deferred.ofValue, invoke, callFunc, Sem.run, program, h1, h2', hcb]
    unfold Oper.wp
    rw [fr_eval, hr]
    refine (hc rfl w hw).mono fun e w' ⟨v, Hn, h4, h5, h6⟩ => ?_
    subst h4
    have h7 := h v Hn (fun _ => h5)
    rw [gvt rfl] at h7
    exact hK _ _ (by rw [fr_put]; exact h7 _ (hw.join h6))
  | false =>
    rw [if_neg (by simp)]
    have h1 := h undef [] (fun e => by cases e)
    rw [gv_false, List.append_nil] at h1
    exact hK _ _ (by rw [fr_put]; exact h1 w hw)
end
end Jal
/- walks, printed by a program of ours -/
namespace Go.Proofs.Ytkdbjhlkahkobaa
open Jal Go.RowKit
set_option maxRecDepth 100000
theorem own_pos {p : Option Addr} {n c : Nat} {xs : List Value} {oe : List Ent} (h : OwnL 5 1 (.slice p n c) n xs oe) (hn : 0 < n) : ∃ g, p = some ⟨g, 0, none⟩ := by
  rcases h.2 with ⟨_, h0, _⟩ | ⟨g, cap, cur, h1, _⟩
  · omega
  · cases h1; exact ⟨g, rfl⟩
theorem u64N_id {a : Int} (h : U64 a) : ((u64N a : Nat) : Int) = a := by
  unfold U64 at h
  rw [(u64N_eq a).1, ru (by omega) (by omega)]
theorem own_memg {w0 w : World} {H oe : List Ent} {g m c : Nat} {xs : List Value} (h : OwnL 5 1 (.slice (some ⟨g, 0, none⟩) m c) m xs oe) (hw : Sat w0 H w) (hs : oe.Sublist H) (hm : 0 < m) : Mem w ⟨g, 0, none⟩ xs := by
  obtain ⟨ad, h1, h2⟩ := own_mem h hw hs hm
  cases h1; exact h2
def ctlI (h : Hd) : Int := bif h.control then 1 else 0

def B0 (h : Hd) : List Int := numB (u64N h.writer) ++ numB (u64N h.seq) ++ aL 32 h.prev ++ numB (u64N h.epoch) ++ [ctlI h] ++ numB (u64N h.time) ++ aL 16 h.item ++ numB h.tn
def B1 (h : Hd) : List Int := B0 h ++ flatI h.tn (fun i => aL 16 (h.tok i))
theorem flatI_succ (n : Nat) (f : Nat → List Int) : flatI (n + 1) f = flatI n f ++ f n := by
  unfold flatI; rw [List.range_succ, List.flatMap_append]; simp
theorem flatI_len {f : Nat → List Int} {m : Nat} (hf : ∀ i, (f i).length ≤ m) : ∀ n, (flatI n f).length ≤ n * m
  | 0 => Nat.zero_le _
  | n + 1 => by
    rw [flatI_succ, List.length_append, Nat.add_mul]
    have := flatI_len hf n
    have := hf n
    omega
theorem aL_len (n : Nat) (f : Nat → Int) : (aL n f).length = n := by simp [aL]
theorem B0_len (h : Hd) (ht : h.tn ≤ 20) : (B0 h).length ≤ 500 := by
  have ny1 := numB_len 64 (u64N h.writer) (u64N_eq _).2
  have ny2 := numB_len 64 (u64N h.seq) (u64N_eq _).2
  have ny3 := numB_len 64 (u64N h.epoch) (u64N_eq _).2
  have ny4 := numB_len 64 (u64N h.time) (u64N_eq _).2
  have ny5 := numB_len 64 h.tn (by omega)
  unfold B0
  simp only [List.length_append, aL_len, List.length_cons, List.length_nil]
  omega
theorem T_len (h : Hd) (n : Nat) : (flatI n (fun i => aL 16 (h.tok i))).length ≤ n * 16 := flatI_len (fun i => by rw [aL_len]; exact Nat.le_refl _) n
theorem K_len (h : Hd) (n : Nat) : (flatI n (fun i => numB (u64N (h.knows i)))).length ≤ n * 65 := flatI_len (fun i => numB_len 64 _ (u64N_eq _).2) n
theorem own_re {v : Value} {n : Nat} {xs ys : List Int} {oe : List Ent} (h : OwnL 5 1 v n (bv xs) oe) (e : xs = ys) : OwnL 5 1 v ys.length (bv ys) oe := by
  subst e
  have h1 := h.1
  rw [bv_len, Nat.mul_one] at h1
  rw [h1]; exact h
theorem B0_pos (h : Hd) (l : List Int) : 0 < (B0 h ++ l).length := by
  have := numB_pos h.tn
  unfold B0
  simp only [List.length_append]
  omega
theorem encH_know (h : Hd) {i : Nat} (hi : i < 6) : (encH h)[0 + 54 + (i : Int).toNat * 1]? = some (.int .u64 (h.knows i)) := by
  match i, hi with
  | 0, _ => rfl
  | 1, _ => rfl
  | 2, _ => rfl
  | 3, _ => rfl
  | 4, _ => rfl
  | 5, _ => rfl

set_option maxHeartbeats 2000000 in
theorem core_bytes (h : Hd) (w : World) (hh : HdIn w h) (kh : HdOk h) (ht : h.tn ≤ 20) : Calls Try.prog 119 #[.agg (encH h).toArray] w (RetM (fun v Hn => OwnL 5 1 v (coreBy h).length (bv (coreBy h)) Hn) w) := by
  refine fn_calls (n := 83) Try.func119 rfl rfl (lb rfl) ?_
  have ny1 := numB_len 64 (u64N h.writer) (u64N_eq _).2
  have ny2 := numB_len 64 (u64N h.seq) (u64N_eq _).2
  have ny3 := numB_len 64 (u64N h.epoch) (u64N_eq _).2
  have ny4 := numB_len 64 (u64N h.time) (u64N_eq _).2
  have ny5 := numB_len 64 h.tn (by omega)
  have ny6 := numB_len 64 (u64N h.size) (u64N_eq _).2
  refine cseq ?_
  refine creg ?_
  refine lbxa rfl (fun b1 => ?_)
  refine l1 (asg rfl) ?_
  refine lnil ?_
  refine nthen ?_
  refine cseq ?_
  refine creg ?_
  refine l1 (fa fa37_0 rfl) ?_
  refine l1 (ldc 0 Try.isAgg3 rfl rfl rfl) ?_
  refine l1 (cvi ⟨_, Try.underlying3⟩ Try.underlying22 rfl) ?_
  refine lclm hb137 rfl (mc (show _ = Value.int .u64 ((u64N h.writer : Nat) : Int) by rw [(u64N_eq h.writer).1]; rfl) mn) (fun w' hw => num_calls (u64N h.writer) ((u64N_eq _).2) w') ?_
  rintro v10 H10 k10
  obtain ⟨p10, c10, rfl⟩ := k10.form
  obtain ⟨g10, rfl⟩ := own_pos k10 (numB_pos _)
  refine l1 (asgs rfl) ?_
  refine lnil ?_
  refine nthen ?_
  refine cseq ?_
  refine creg ?_
  refine l1 (mvs rfl) ?_
  refine l1 (fa fa37_1 rfl) ?_
  refine l1 (ldc 0 Try.isAgg22 rfl rfl rfl) ?_
  refine lclm hb137 rfl (mc (show _ = Value.int .u64 ((u64N h.seq : Nat) : Int) by rw [u64N_id kh.s]; rfl) mn) (fun w' hw => num_calls (u64N h.seq) ((u64N_eq _).2) w') ?_
  rintro v14 H14 k14
  obtain ⟨p14, c14, rfl⟩ := k14.form
  obtain ⟨g14, rfl⟩ := own_pos k14 (numB_pos _)
  refine lapp [_] H14 H10 el56 rfl rfl k10 rfl (news := bv (numB (u64N h.seq))) (by rw [bv_len, Nat.mul_one]) (fun w' hw => own_memg k14 hw (List.Sublist.cons _ (List.sublist_append_right _ _)) (numB_pos _)) (bv_one _) (numB_pos _) (by unfold maxLen; omega) (by omega) ?_
  intro g15 c15 o15 k15
  rw [← bv_app] at k15
  refine wl_sub (H' := ⟨b1, encH h, 37⟩ :: o15) (List.Sublist.cons_cons _ (List.sublist_append_left _ _)) ?_
  refine l1 (asgs rfl) ?_
  refine lnil ?_
  refine nthen ?_
  refine cseq ?_
  refine creg ?_
  refine l1 (mvs rfl) ?_
  refine l1 (fa fa37_2 rfl) ?_
  refine l1 (slall Try.underlying32 Try.sizeOf5 rfl) ?_
  refine lapp [_] [] o15 el56 (by rw [List.append_nil]; rfl) rfl k15 rfl (news := arr .u8 32 h.prev) rfl (fun w' hw => mem_part 2 32 (hw.mem (i := 0) rfl 0)) (oneA rfl) (by decide) (by unfold maxLen; omega) (by omega) ?_
  intro g19 c19 o19 k19
  rw [← bv_aL, ← bv_app] at k19
  rw [List.append_nil]
  refine l1 (asgs rfl) ?_
  refine lnil ?_
  refine nthen ?_
  refine cseq ?_
  refine creg ?_
  refine l1 (mvs rfl) ?_
  refine l1 (fa fa37_3 rfl) ?_
  refine l1 (ldc 0 Try.isAgg3 rfl rfl rfl) ?_
  refine l1 (cvi ⟨_, Try.underlying3⟩ Try.underlying22 rfl) ?_
  refine lclm hb137 rfl (mc (show _ = Value.int .u64 ((u64N h.epoch : Nat) : Int) by rw [(u64N_eq h.epoch).1]; rfl) mn) (fun w' hw => num_calls (u64N h.epoch) ((u64N_eq _).2) w') ?_
  rintro v24 H24 k24
  obtain ⟨p24, c24, rfl⟩ := k24.form
  obtain ⟨g24, rfl⟩ := own_pos k24 (numB_pos _)
  refine lapp [_] H24 o19 el56 rfl rfl k19 rfl (news := bv (numB (u64N h.epoch))) (by rw [bv_len, Nat.mul_one]) (fun w' hw => own_memg k24 hw (List.Sublist.cons _ (List.sublist_append_right _ _)) (numB_pos _)) (bv_one _) (numB_pos _) (by unfold maxLen; omega) (by omega) ?_
  intro g25 c25 o25 k25
  rw [← bv_app] at k25
  refine wl_sub (H' := ⟨b1, encH h, 37⟩ :: o25) (List.Sublist.cons_cons _ (List.sublist_append_left _ _)) ?_
  refine l1 (asgs rfl) ?_
  refine lnil ?_
  refine nthen ?_
  refine cseq ?_
  refine creg ?_
  refine l1 (asg rfl) ?_
  refine lnil ?_
  refine nthen ?_
  refine cseq ?_
  refine cseq ?_
  refine creg ?_
  refine l1 (fa fa37_4 rfl) ?_
  refine l1 (ldc 0 Try.isAgg4 rfl rfl rfl) ?_
  refine lnil ?_
  refine nthen ?_
  refine cif rfl (fun h1 => ?_) (fun h1 => ?_)
  · have hct : ctlI h = 1 := by (unfold ctlI; rw [h1]; rfl)
    refine creg ?_
    refine l1 (asg rfl) ?_
    refine lnil ?_
    refine nthen ?_
    refine cseq ?_
    refine creg ?_
    refine l1 (mvs rfl) ?_
    refine l1 (mvi rfl) ?_
    refine lbs Try.underlying56 rfl (bs56 _) (fun b2 => ?_)
    refine wl_perm (ins_perm 1 _ _) ?_
    refine lapp [_, _] [] o25 el56 (by rw [List.append_nil]; rfl) rfl k25 rfl (news := bv [ctlI h]) rfl (fun w' hw => by rw [hct]; have := hw.mem (i := 1) rfl 0; simpa [bv] using this) (bv_one _) (by decide) (by unfold maxLen; omega) (by omega) ?_
    intro g31 c31 o31 k31
    rw [← bv_app] at k31
    rw [List.append_nil]
    refine wl_sub (H' := ⟨b1, encH h, 37⟩ :: o31) (List.Sublist.cons_cons _ (List.Sublist.cons _ (List.Sublist.refl _))) ?_
    refine l1 (asgs rfl) ?_
    refine lnil ?_
    refine nthen ?_
    refine cseq ?_
    refine creg ?_
    refine l1 (mvs rfl) ?_
    refine l1 (fa fa37_5 rfl) ?_
    refine l1 (ldc 0 Try.isAgg22 rfl rfl rfl) ?_
    refine lclm hb137 rfl (mc (show _ = Value.int .u64 ((u64N h.time : Nat) : Int) by rw [u64N_id kh.t]; rfl) mn) (fun w' hw => num_calls (u64N h.time) ((u64N_eq _).2) w') ?_
    rintro v35 H35 k35
    obtain ⟨p35, c35, rfl⟩ := k35.form
    obtain ⟨g35, rfl⟩ := own_pos k35 (numB_pos _)
    refine lapp [_] H35 o31 el56 rfl rfl k31 rfl (news := bv (numB (u64N h.time))) (by rw [bv_len, Nat.mul_one]) (fun w' hw => own_memg k35 hw (List.Sublist.cons _ (List.sublist_append_right _ _)) (numB_pos _)) (bv_one _) (numB_pos _) (by unfold maxLen; omega) (by omega) ?_
    intro g36 c36 o36 k36
    rw [← bv_app] at k36
    refine wl_sub (H' := ⟨b1, encH h, 37⟩ :: o36) (List.Sublist.cons_cons _ (List.sublist_append_left _ _)) ?_
    refine l1 (asgs rfl) ?_
    refine lnil ?_
    refine nthen ?_
    refine cseq ?_
    refine creg ?_
    refine l1 (mvs rfl) ?_
    refine l1 (fa fa37_6 rfl) ?_
    refine l1 (slall Try.underlying34 Try.sizeOf5 rfl) ?_
    refine lapp [_] [] o36 el56 (by rw [List.append_nil]; rfl) rfl k36 rfl (news := arr .u8 16 h.item) rfl (fun w' hw => mem_part 37 16 (hw.mem (i := 0) rfl 0)) (oneA rfl) (by decide) (by unfold maxLen; omega) (by omega) ?_
    intro g40 c40 o40 k40
    rw [← bv_aL, ← bv_app] at k40
    rw [List.append_nil]
    refine l1 (asgs rfl) ?_
    refine lnil ?_
    refine nthen ?_
    refine cseq ?_
    refine creg ?_
    refine l1 (mvs rfl) ?_
    refine l1 (fa fa37_7 rfl) ?_
    refine l1 (ldc 0 Try.isAgg35 rfl rfl rfl) ?_
    refine l1 (lens sl35 rfl rfl) ?_
    refine l1 (cvn ⟨_, Try.underlying3⟩ Try.underlying22 rfl (ru (by omega) (by omega))) ?_
    refine lclm hb137 rfl (mc (show _ = Value.int .u64 ((h.tn : Nat) : Int) by rfl) mn) (fun w' hw => num_calls (h.tn) (by omega) w') ?_
    rintro v46 H46 k46
    obtain ⟨p46, c46, rfl⟩ := k46.form
    obtain ⟨g46, rfl⟩ := own_pos k46 (numB_pos _)
    refine lapp [_] H46 o40 el56 rfl rfl k40 rfl (news := bv (numB (h.tn))) (by rw [bv_len, Nat.mul_one]) (fun w' hw => own_memg k46 hw (List.Sublist.cons _ (List.sublist_append_right _ _)) (numB_pos _)) (bv_one _) (numB_pos _) (by unfold maxLen; omega) (by omega) ?_
    intro g47 c47 o47 k47
    rw [← bv_app] at k47
    refine wl_sub (H' := ⟨b1, encH h, 37⟩ :: o47) (List.Sublist.cons_cons _ (List.sublist_append_left _ _)) ?_
    refine l1 (asgs rfl) ?_
    refine lnil ?_
    refine nthen ?_
    refine cseq ?_
    refine cseq ?_
    refine creg ?_
    refine l1 (asgi rfl) ?_
    refine lnil ?_
    refine nthen ?_
    refine cblock ?_
    refine cloopI (σ := Nat × Value × List Ent) (fun s => [(1, .pointer (some ⟨b1, 0, none⟩)), (3, s.2.1), (5, .int .i64 (s.1 : Int))]) (fun s => ([⟨b1, encH h, 37⟩] ++ (s.2.2))) (fun s => s.1 ≤ h.tn ∧ OwnL 5 1 s.2.1 (B0 h ++ flatI s.1 (fun i => aL 16 (h.tok i))).length (bv (B0 h ++ flatI s.1 (fun i => aL 16 (h.tok i)))) s.2.2) (fun s => h.tn - s.1) (0, _, o47) ⟨Nat.zero_le _, own_re k47 (by exact (List.append_nil _).symm)⟩ ⟨rfl, rfl, rfl, trivial⟩ (List.Sublist.refl _) ?_
    rintro ⟨i, v3, oe⟩ j hI; replace hI : i ≤ h.tn ∧ OwnL 5 1 v3 (B0 h ++ flatI i (fun i => aL 16 (h.tok i))).length (bv (B0 h ++ flatI i (fun i => aL 16 (h.tok i)))) oe := hI; obtain ⟨hi, hown⟩ := hI; obtain ⟨p3, c3, rfl⟩ := hown.form; obtain ⟨g3, rfl⟩ := own_pos hown (B0_pos h _); have hx0 := B0_len h ht; have hx1 := T_len h i; have hx2 := T_len h h.tn; have hx3 := K_len h i; have hx4 := numB_len 64 (u64N (h.knows i)) (u64N_eq _).2; have hx5 : (B0 h ++ flatI i (fun i => aL 16 (h.tok i))).length ≤ 3000 := (by unfold flatI at *; simp only [List.length_append] at *; omega)
    show WC _ _ _ (⟨b1, encH h, 37⟩ :: (oe)) _ _ (over j [(1, .pointer (some ⟨b1, 0, none⟩)), (3, .slice (some ⟨g3, 0, none⟩) (B0 h ++ flatI i (fun i => aL 16 (h.tok i))).length c3), (5, .int .i64 (i : Int))])
    refine cseq ?_
    refine cseq ?_
    refine creg ?_
    refine l1 (mvi rfl) ?_
    refine l1 (fa fa37_7 rfl) ?_
    refine l1 (ldc 0 Try.isAgg35 rfl rfl rfl) ?_
    refine l1 (lens sl35 rfl rfl) ?_
    refine l1 (lss rfl rfl) ?_
    refine lnil ?_
    refine nthen ?_
    refine cif rfl (fun h2 => ?_) (fun h2 => ?_)
    · have hlt : i < h.tn := by (have := dt h2; omega)
      obtain ⟨b, o, hp, hbl, hm⟩ := hh.at hlt
      refine cskip ?_
      refine nthen ?_
      refine cseq ?_
      refine cblock ?_
      refine creg ?_
      refine l1 (mvs rfl) ?_
      refine l1 (fa fa37_7 rfl) ?_
      refine l1 (ldc 0 Try.isAgg35 rfl rfl rfl) ?_
      refine l1 (mvi rfl) ?_
      refine l1 (isp sl35 hp rfl rfl (by omega) (by omega)) ?_
      refine l1 (slall Try.underlying34 Try.sizeOf5 rfl) ?_
      refine lapp [_] [] oe el56 (by rw [List.append_nil]; rfl) rfl hown rfl (news := arr .u8 16 (h.tok i)) rfl (fun w' hw => (hm i hlt).kept hw.below hbl) (oneA rfl) (by decide) (by unfold maxLen; omega) (by omega) ?_
      intro g61 c61 o61 k61
      rw [← bv_aL, ← bv_app] at k61
      rw [List.append_nil]
      refine l1 (asgs rfl) ?_
      refine lnil ?_
      refine nblkN ?_
      refine nthen ?_
      refine creg ?_
      refine l1 (mvi rfl) ?_
      first | refine l1 (addn rfl rfl (ri (by omega) (by omega))) ?_ | refine l1 (add rfl rfl) ?_
      refine l1 (asgi rfl) ?_
      refine lnil ?_
      exact nI (i + 1, _, o61) ⟨(by show i + 1 ≤ h.tn; omega), own_re k61 (by show _ = B0 h ++ flatI (i + 1) _; rw [flatI_succ, List.append_assoc])⟩ (by show h.tn - (i + 1) < h.tn - i; omega) ⟨rfl, rfl, rfl, trivial⟩ (List.Sublist.refl _)
    · have hin : i = h.tn := by (have := df h2; omega)
      refine cexit ?_
      refine nthenE ?_
      refine nIE ?_
      refine nblkE ?_
      refine nthen ?_
      refine cseq ?_
      refine cseq ?_
      refine creg ?_
      refine l1 (asgi rfl) ?_
      refine lnil ?_
      refine nthen ?_
      refine cblock ?_
      refine cloopI (σ := Nat × Value × List Ent) (fun s => [(1, .pointer (some ⟨b1, 0, none⟩)), (3, s.2.1), (6, .int .i64 (s.1 : Int))]) (fun s => ([⟨b1, encH h, 37⟩] ++ (s.2.2))) (fun s => s.1 ≤ 6 ∧ OwnL 5 1 s.2.1 (B1 h ++ flatI s.1 (fun i => numB (u64N (h.knows i)))).length (bv (B1 h ++ flatI s.1 (fun i => numB (u64N (h.knows i))))) s.2.2) (fun s => 6 - s.1) (0, _, oe) ⟨Nat.zero_le _, own_re hown (by (have hie : i = h.tn := hin; subst hie; exact (List.append_nil _).symm))⟩ ⟨rfl, rfl, rfl, trivial⟩ (List.Sublist.refl _) ?_
      rintro ⟨i, v3, oe⟩ j hI; replace hI : i ≤ 6 ∧ OwnL 5 1 v3 (B1 h ++ flatI i (fun i => numB (u64N (h.knows i)))).length (bv (B1 h ++ flatI i (fun i => numB (u64N (h.knows i))))) oe := hI; obtain ⟨hi, hown⟩ := hI; obtain ⟨p3, c3, rfl⟩ := hown.form; obtain ⟨g3, rfl⟩ := own_pos hown (by unfold B1; rw [List.append_assoc]; exact B0_pos h _); have hx0 := B0_len h ht; have hx1 := T_len h i; have hx2 := T_len h h.tn; have hx3 := K_len h i; have hx4 := numB_len 64 (u64N (h.knows i)) (u64N_eq _).2; have hx5 : (B1 h ++ flatI i (fun i => numB (u64N (h.knows i)))).length ≤ 3000 := (by unfold B1 flatI at *; simp only [List.length_append] at *; omega)
      show WC _ _ _ (⟨b1, encH h, 37⟩ :: (oe)) _ _ (over j [(1, .pointer (some ⟨b1, 0, none⟩)), (3, .slice (some ⟨g3, 0, none⟩) (B1 h ++ flatI i (fun i => numB (u64N (h.knows i)))).length c3), (6, .int .i64 (i : Int))])
      refine cseq ?_
      refine cseq ?_
      refine creg ?_
      refine l1 (mvi rfl) ?_
      refine l1 (lss rfl rfl) ?_
      refine lnil ?_
      refine nthen ?_
      refine cif rfl (fun h3 => ?_) (fun h3 => ?_)
      · have hlt : i < 6 := by (have := dt h3; omega)
        refine cskip ?_
        refine nthen ?_
        refine cseq ?_
        refine cblock ?_
        refine creg ?_
        refine l1 (mvs rfl) ?_
        refine l1 (mvi rfl) ?_
        refine l1 (fa fa37_8 rfl) ?_
        refine l1 (ia ar23 rfl rfl (by first | omega | decide | (simp at *; omega)) (by first | omega | decide | (simp at *; omega))) ?_
        refine l1 (ldc 0 Try.isAgg22 rfl rfl (encH_know h hlt)) ?_
        refine lclm hb137 rfl (mc (show _ = Value.int .u64 ((u64N (h.knows i) : Nat) : Int) by rw [u64N_id (kh.k i hlt)]; rfl) mn) (fun w' hw => num_calls (u64N (h.knows i)) ((u64N_eq _).2) w') ?_
        rintro v71 H71 k71
        obtain ⟨p71, c71, rfl⟩ := k71.form
        obtain ⟨g71, rfl⟩ := own_pos k71 (numB_pos _)
        refine lapp [_] H71 oe el56 rfl rfl hown rfl (news := bv (numB (u64N (h.knows i)))) (by rw [bv_len, Nat.mul_one]) (fun w' hw => own_memg k71 hw (List.Sublist.cons _ (List.sublist_append_right _ _)) (numB_pos _)) (bv_one _) (numB_pos _) (by unfold maxLen; omega) (by omega) ?_
        intro g72 c72 o72 k72
        rw [← bv_app] at k72
        refine wl_sub (H' := ⟨b1, encH h, 37⟩ :: o72) (List.Sublist.cons_cons _ (List.sublist_append_left _ _)) ?_
        refine l1 (asgs rfl) ?_
        refine lnil ?_
        refine nblkN ?_
        refine nthen ?_
        refine creg ?_
        refine l1 (mvi rfl) ?_
        first | refine l1 (addn rfl rfl (ri (by omega) (by omega))) ?_ | refine l1 (add rfl rfl) ?_
        refine l1 (asgi rfl) ?_
        refine lnil ?_
        exact nI (i + 1, _, o72) ⟨(by show i + 1 ≤ 6; omega), own_re k72 (by show _ = B1 h ++ flatI (i + 1) _; rw [flatI_succ, List.append_assoc])⟩ (by show 6 - (i + 1) < 6 - i; omega) ⟨rfl, rfl, rfl, trivial⟩ (List.Sublist.refl _)
      · have hin6 : i = 6 := by (have := df h3; omega)
        subst hin6
        refine cexit ?_
        refine nthenE ?_
        refine nIE ?_
        refine nblkE ?_
        refine nthen ?_
        refine cseq ?_
        refine creg ?_
        refine l1 (mvs rfl) ?_
        refine l1 (fa fa37_9 rfl) ?_
        refine l1 (slall Try.underlying32 Try.sizeOf5 rfl) ?_
        refine lapp [_] [] oe el56 (by rw [List.append_nil]; rfl) rfl hown rfl (news := arr .u8 32 h.sum) rfl (fun w' hw => mem_part 60 32 (hw.mem (i := 0) rfl 0)) (oneA rfl) (by decide) (by unfold maxLen; omega) (by omega) ?_
        intro g76 c76 o76 k76
        rw [← bv_aL, ← bv_app] at k76
        rw [List.append_nil]
        refine l1 (asgs rfl) ?_
        refine lnil ?_
        refine nthen ?_
        refine cseq ?_
        refine creg ?_
        refine l1 (mvs rfl) ?_
        refine l1 (fa fa37_10 rfl) ?_
        refine l1 (ldc 0 Try.isAgg3 rfl rfl rfl) ?_
        refine l1 (cvi ⟨_, Try.underlying3⟩ Try.underlying22 rfl) ?_
        refine lclm hb137 rfl (mc (show _ = Value.int .u64 ((u64N h.size : Nat) : Int) by rw [(u64N_eq h.size).1]; rfl) mn) (fun w' hw => num_calls (u64N h.size) ((u64N_eq _).2) w') ?_
        rintro v81 H81 k81
        obtain ⟨p81, c81, rfl⟩ := k81.form
        obtain ⟨g81, rfl⟩ := own_pos k81 (numB_pos _)
        refine lapp [_] H81 o76 el56 rfl rfl k76 rfl (news := bv (numB (u64N h.size))) (by rw [bv_len, Nat.mul_one]) (fun w' hw => own_memg k81 hw (List.Sublist.cons _ (List.sublist_append_right _ _)) (numB_pos _)) (bv_one _) (numB_pos _) (by unfold maxLen; omega) (by omega) ?_
        intro g82 c82 o82 k82
        rw [← bv_app] at k82
        refine wl_sub (H' := ⟨b1, encH h, 37⟩ :: o82) (List.Sublist.cons_cons _ (List.sublist_append_left _ _)) ?_
        refine l1 (asg rfl) ?_
        refine lnil ?_
        refine nthen ?_
        refine cret ?_
        exact finM _ o82 (rv1 rfl (rvt rfl)) ⟨_, List.Perm.refl _, List.Sublist.cons _ (List.Sublist.refl _)⟩ (own_re k82 rfl)
  · have hct : ctlI h = 0 := by (unfold ctlI; rw [h1]; rfl)
    refine cskip ?_
    refine nthen ?_
    refine cseq ?_
    refine creg ?_
    refine l1 (mvs rfl) ?_
    refine l1 (mvi rfl) ?_
    refine lbs Try.underlying56 rfl (bs56 _) (fun b3 => ?_)
    refine wl_perm (ins_perm 1 _ _) ?_
    refine lapp [_, _] [] o25 el56 (by rw [List.append_nil]; rfl) rfl k25 rfl (news := bv [ctlI h]) rfl (fun w' hw => by rw [hct]; have := hw.mem (i := 1) rfl 0; simpa [bv] using this) (bv_one _) (by decide) (by unfold maxLen; omega) (by omega) ?_
    intro g31 c31 o31 k31
    rw [← bv_app] at k31
    rw [List.append_nil]
    refine wl_sub (H' := ⟨b1, encH h, 37⟩ :: o31) (List.Sublist.cons_cons _ (List.Sublist.cons _ (List.Sublist.refl _))) ?_
    refine l1 (asgs rfl) ?_
    refine lnil ?_
    refine nthen ?_
    refine cseq ?_
    refine creg ?_
    refine l1 (mvs rfl) ?_
    refine l1 (fa fa37_5 rfl) ?_
    refine l1 (ldc 0 Try.isAgg22 rfl rfl rfl) ?_
    refine lclm hb137 rfl (mc (show _ = Value.int .u64 ((u64N h.time : Nat) : Int) by rw [u64N_id kh.t]; rfl) mn) (fun w' hw => num_calls (u64N h.time) ((u64N_eq _).2) w') ?_
    rintro v35 H35 k35
    obtain ⟨p35, c35, rfl⟩ := k35.form
    obtain ⟨g35, rfl⟩ := own_pos k35 (numB_pos _)
    refine lapp [_] H35 o31 el56 rfl rfl k31 rfl (news := bv (numB (u64N h.time))) (by rw [bv_len, Nat.mul_one]) (fun w' hw => own_memg k35 hw (List.Sublist.cons _ (List.sublist_append_right _ _)) (numB_pos _)) (bv_one _) (numB_pos _) (by unfold maxLen; omega) (by omega) ?_
    intro g36 c36 o36 k36
    rw [← bv_app] at k36
    refine wl_sub (H' := ⟨b1, encH h, 37⟩ :: o36) (List.Sublist.cons_cons _ (List.sublist_append_left _ _)) ?_
    refine l1 (asgs rfl) ?_
    refine lnil ?_
    refine nthen ?_
    refine cseq ?_
    refine creg ?_
    refine l1 (mvs rfl) ?_
    refine l1 (fa fa37_6 rfl) ?_
    refine l1 (slall Try.underlying34 Try.sizeOf5 rfl) ?_
    refine lapp [_] [] o36 el56 (by rw [List.append_nil]; rfl) rfl k36 rfl (news := arr .u8 16 h.item) rfl (fun w' hw => mem_part 37 16 (hw.mem (i := 0) rfl 0)) (oneA rfl) (by decide) (by unfold maxLen; omega) (by omega) ?_
    intro g40 c40 o40 k40
    rw [← bv_aL, ← bv_app] at k40
    rw [List.append_nil]
    refine l1 (asgs rfl) ?_
    refine lnil ?_
    refine nthen ?_
    refine cseq ?_
    refine creg ?_
    refine l1 (mvs rfl) ?_
    refine l1 (fa fa37_7 rfl) ?_
    refine l1 (ldc 0 Try.isAgg35 rfl rfl rfl) ?_
    refine l1 (lens sl35 rfl rfl) ?_
    refine l1 (cvn ⟨_, Try.underlying3⟩ Try.underlying22 rfl (ru (by omega) (by omega))) ?_
    refine lclm hb137 rfl (mc (show _ = Value.int .u64 ((h.tn : Nat) : Int) by rfl) mn) (fun w' hw => num_calls (h.tn) (by omega) w') ?_
    rintro v46 H46 k46
    obtain ⟨p46, c46, rfl⟩ := k46.form
    obtain ⟨g46, rfl⟩ := own_pos k46 (numB_pos _)
    refine lapp [_] H46 o40 el56 rfl rfl k40 rfl (news := bv (numB (h.tn))) (by rw [bv_len, Nat.mul_one]) (fun w' hw => own_memg k46 hw (List.Sublist.cons _ (List.sublist_append_right _ _)) (numB_pos _)) (bv_one _) (numB_pos _) (by unfold maxLen; omega) (by omega) ?_
    intro g47 c47 o47 k47
    rw [← bv_app] at k47
    refine wl_sub (H' := ⟨b1, encH h, 37⟩ :: o47) (List.Sublist.cons_cons _ (List.sublist_append_left _ _)) ?_
    refine l1 (asgs rfl) ?_
    refine lnil ?_
    refine nthen ?_
    refine cseq ?_
    refine cseq ?_
    refine creg ?_
    refine l1 (asgi rfl) ?_
    refine lnil ?_
    refine nthen ?_
    refine cblock ?_
    refine cloopI (σ := Nat × Value × List Ent) (fun s => [(1, .pointer (some ⟨b1, 0, none⟩)), (3, s.2.1), (5, .int .i64 (s.1 : Int))]) (fun s => ([⟨b1, encH h, 37⟩] ++ (s.2.2))) (fun s => s.1 ≤ h.tn ∧ OwnL 5 1 s.2.1 (B0 h ++ flatI s.1 (fun i => aL 16 (h.tok i))).length (bv (B0 h ++ flatI s.1 (fun i => aL 16 (h.tok i)))) s.2.2) (fun s => h.tn - s.1) (0, _, o47) ⟨Nat.zero_le _, own_re k47 (by exact (List.append_nil _).symm)⟩ ⟨rfl, rfl, rfl, trivial⟩ (List.Sublist.refl _) ?_
    rintro ⟨i, v3, oe⟩ j hI; replace hI : i ≤ h.tn ∧ OwnL 5 1 v3 (B0 h ++ flatI i (fun i => aL 16 (h.tok i))).length (bv (B0 h ++ flatI i (fun i => aL 16 (h.tok i)))) oe := hI; obtain ⟨hi, hown⟩ := hI; obtain ⟨p3, c3, rfl⟩ := hown.form; obtain ⟨g3, rfl⟩ := own_pos hown (B0_pos h _); have hx0 := B0_len h ht; have hx1 := T_len h i; have hx2 := T_len h h.tn; have hx3 := K_len h i; have hx4 := numB_len 64 (u64N (h.knows i)) (u64N_eq _).2; have hx5 : (B0 h ++ flatI i (fun i => aL 16 (h.tok i))).length ≤ 3000 := (by unfold flatI at *; simp only [List.length_append] at *; omega)
    show WC _ _ _ (⟨b1, encH h, 37⟩ :: (oe)) _ _ (over j [(1, .pointer (some ⟨b1, 0, none⟩)), (3, .slice (some ⟨g3, 0, none⟩) (B0 h ++ flatI i (fun i => aL 16 (h.tok i))).length c3), (5, .int .i64 (i : Int))])
    refine cseq ?_
    refine cseq ?_
    refine creg ?_
    refine l1 (mvi rfl) ?_
    refine l1 (fa fa37_7 rfl) ?_
    refine l1 (ldc 0 Try.isAgg35 rfl rfl rfl) ?_
    refine l1 (lens sl35 rfl rfl) ?_
    refine l1 (lss rfl rfl) ?_
    refine lnil ?_
    refine nthen ?_
    refine cif rfl (fun h4 => ?_) (fun h4 => ?_)
    · have hlt : i < h.tn := by (have := dt h4; omega)
      obtain ⟨b, o, hp, hbl, hm⟩ := hh.at hlt
      refine cskip ?_
      refine nthen ?_
      refine cseq ?_
      refine cblock ?_
      refine creg ?_
      refine l1 (mvs rfl) ?_
      refine l1 (fa fa37_7 rfl) ?_
      refine l1 (ldc 0 Try.isAgg35 rfl rfl rfl) ?_
      refine l1 (mvi rfl) ?_
      refine l1 (isp sl35 hp rfl rfl (by omega) (by omega)) ?_
      refine l1 (slall Try.underlying34 Try.sizeOf5 rfl) ?_
      refine lapp [_] [] oe el56 (by rw [List.append_nil]; rfl) rfl hown rfl (news := arr .u8 16 (h.tok i)) rfl (fun w' hw => (hm i hlt).kept hw.below hbl) (oneA rfl) (by decide) (by unfold maxLen; omega) (by omega) ?_
      intro g61 c61 o61 k61
      rw [← bv_aL, ← bv_app] at k61
      rw [List.append_nil]
      refine l1 (asgs rfl) ?_
      refine lnil ?_
      refine nblkN ?_
      refine nthen ?_
      refine creg ?_
      refine l1 (mvi rfl) ?_
      first | refine l1 (addn rfl rfl (ri (by omega) (by omega))) ?_ | refine l1 (add rfl rfl) ?_
      refine l1 (asgi rfl) ?_
      refine lnil ?_
      exact nI (i + 1, _, o61) ⟨(by show i + 1 ≤ h.tn; omega), own_re k61 (by show _ = B0 h ++ flatI (i + 1) _; rw [flatI_succ, List.append_assoc])⟩ (by show h.tn - (i + 1) < h.tn - i; omega) ⟨rfl, rfl, rfl, trivial⟩ (List.Sublist.refl _)
    · have hin : i = h.tn := by (have := df h4; omega)
      refine cexit ?_
      refine nthenE ?_
      refine nIE ?_
      refine nblkE ?_
      refine nthen ?_
      refine cseq ?_
      refine cseq ?_
      refine creg ?_
      refine l1 (asgi rfl) ?_
      refine lnil ?_
      refine nthen ?_
      refine cblock ?_
      refine cloopI (σ := Nat × Value × List Ent) (fun s => [(1, .pointer (some ⟨b1, 0, none⟩)), (3, s.2.1), (6, .int .i64 (s.1 : Int))]) (fun s => ([⟨b1, encH h, 37⟩] ++ (s.2.2))) (fun s => s.1 ≤ 6 ∧ OwnL 5 1 s.2.1 (B1 h ++ flatI s.1 (fun i => numB (u64N (h.knows i)))).length (bv (B1 h ++ flatI s.1 (fun i => numB (u64N (h.knows i))))) s.2.2) (fun s => 6 - s.1) (0, _, oe) ⟨Nat.zero_le _, own_re hown (by (have hie : i = h.tn := hin; subst hie; exact (List.append_nil _).symm))⟩ ⟨rfl, rfl, rfl, trivial⟩ (List.Sublist.refl _) ?_
      rintro ⟨i, v3, oe⟩ j hI; replace hI : i ≤ 6 ∧ OwnL 5 1 v3 (B1 h ++ flatI i (fun i => numB (u64N (h.knows i)))).length (bv (B1 h ++ flatI i (fun i => numB (u64N (h.knows i))))) oe := hI; obtain ⟨hi, hown⟩ := hI; obtain ⟨p3, c3, rfl⟩ := hown.form; obtain ⟨g3, rfl⟩ := own_pos hown (by unfold B1; rw [List.append_assoc]; exact B0_pos h _); have hx0 := B0_len h ht; have hx1 := T_len h i; have hx2 := T_len h h.tn; have hx3 := K_len h i; have hx4 := numB_len 64 (u64N (h.knows i)) (u64N_eq _).2; have hx5 : (B1 h ++ flatI i (fun i => numB (u64N (h.knows i)))).length ≤ 3000 := (by unfold B1 flatI at *; simp only [List.length_append] at *; omega)
      show WC _ _ _ (⟨b1, encH h, 37⟩ :: (oe)) _ _ (over j [(1, .pointer (some ⟨b1, 0, none⟩)), (3, .slice (some ⟨g3, 0, none⟩) (B1 h ++ flatI i (fun i => numB (u64N (h.knows i)))).length c3), (6, .int .i64 (i : Int))])
      refine cseq ?_
      refine cseq ?_
      refine creg ?_
      refine l1 (mvi rfl) ?_
      refine l1 (lss rfl rfl) ?_
      refine lnil ?_
      refine nthen ?_
      refine cif rfl (fun h5 => ?_) (fun h5 => ?_)
      · have hlt : i < 6 := by (have := dt h5; omega)
        refine cskip ?_
        refine nthen ?_
        refine cseq ?_
        refine cblock ?_
        refine creg ?_
        refine l1 (mvs rfl) ?_
        refine l1 (mvi rfl) ?_
        refine l1 (fa fa37_8 rfl) ?_
        refine l1 (ia ar23 rfl rfl (by first | omega | decide | (simp at *; omega)) (by first | omega | decide | (simp at *; omega))) ?_
        refine l1 (ldc 0 Try.isAgg22 rfl rfl (encH_know h hlt)) ?_
        refine lclm hb137 rfl (mc (show _ = Value.int .u64 ((u64N (h.knows i) : Nat) : Int) by rw [u64N_id (kh.k i hlt)]; rfl) mn) (fun w' hw => num_calls (u64N (h.knows i)) ((u64N_eq _).2) w') ?_
        rintro v71 H71 k71
        obtain ⟨p71, c71, rfl⟩ := k71.form
        obtain ⟨g71, rfl⟩ := own_pos k71 (numB_pos _)
        refine lapp [_] H71 oe el56 rfl rfl hown rfl (news := bv (numB (u64N (h.knows i)))) (by rw [bv_len, Nat.mul_one]) (fun w' hw => own_memg k71 hw (List.Sublist.cons _ (List.sublist_append_right _ _)) (numB_pos _)) (bv_one _) (numB_pos _) (by unfold maxLen; omega) (by omega) ?_
        intro g72 c72 o72 k72
        rw [← bv_app] at k72
        refine wl_sub (H' := ⟨b1, encH h, 37⟩ :: o72) (List.Sublist.cons_cons _ (List.sublist_append_left _ _)) ?_
        refine l1 (asgs rfl) ?_
        refine lnil ?_
        refine nblkN ?_
        refine nthen ?_
        refine creg ?_
        refine l1 (mvi rfl) ?_
        first | refine l1 (addn rfl rfl (ri (by omega) (by omega))) ?_ | refine l1 (add rfl rfl) ?_
        refine l1 (asgi rfl) ?_
        refine lnil ?_
        exact nI (i + 1, _, o72) ⟨(by show i + 1 ≤ 6; omega), own_re k72 (by show _ = B1 h ++ flatI (i + 1) _; rw [flatI_succ, List.append_assoc])⟩ (by show 6 - (i + 1) < 6 - i; omega) ⟨rfl, rfl, rfl, trivial⟩ (List.Sublist.refl _)
      · have hin6 : i = 6 := by (have := df h5; omega)
        subst hin6
        refine cexit ?_
        refine nthenE ?_
        refine nIE ?_
        refine nblkE ?_
        refine nthen ?_
        refine cseq ?_
        refine creg ?_
        refine l1 (mvs rfl) ?_
        refine l1 (fa fa37_9 rfl) ?_
        refine l1 (slall Try.underlying32 Try.sizeOf5 rfl) ?_
        refine lapp [_] [] oe el56 (by rw [List.append_nil]; rfl) rfl hown rfl (news := arr .u8 32 h.sum) rfl (fun w' hw => mem_part 60 32 (hw.mem (i := 0) rfl 0)) (oneA rfl) (by decide) (by unfold maxLen; omega) (by omega) ?_
        intro g76 c76 o76 k76
        rw [← bv_aL, ← bv_app] at k76
        rw [List.append_nil]
        refine l1 (asgs rfl) ?_
        refine lnil ?_
        refine nthen ?_
        refine cseq ?_
        refine creg ?_
        refine l1 (mvs rfl) ?_
        refine l1 (fa fa37_10 rfl) ?_
        refine l1 (ldc 0 Try.isAgg3 rfl rfl rfl) ?_
        refine l1 (cvi ⟨_, Try.underlying3⟩ Try.underlying22 rfl) ?_
        refine lclm hb137 rfl (mc (show _ = Value.int .u64 ((u64N h.size : Nat) : Int) by rw [(u64N_eq h.size).1]; rfl) mn) (fun w' hw => num_calls (u64N h.size) ((u64N_eq _).2) w') ?_
        rintro v81 H81 k81
        obtain ⟨p81, c81, rfl⟩ := k81.form
        obtain ⟨g81, rfl⟩ := own_pos k81 (numB_pos _)
        refine lapp [_] H81 o76 el56 rfl rfl k76 rfl (news := bv (numB (u64N h.size))) (by rw [bv_len, Nat.mul_one]) (fun w' hw => own_memg k81 hw (List.Sublist.cons _ (List.sublist_append_right _ _)) (numB_pos _)) (bv_one _) (numB_pos _) (by unfold maxLen; omega) (by omega) ?_
        intro g82 c82 o82 k82
        rw [← bv_app] at k82
        refine wl_sub (H' := ⟨b1, encH h, 37⟩ :: o82) (List.Sublist.cons_cons _ (List.sublist_append_left _ _)) ?_
        refine l1 (asg rfl) ?_
        refine lnil ?_
        refine nthen ?_
        refine cret ?_
        exact finM _ o82 (rv1 rfl (rvt rfl)) ⟨_, List.Perm.refl _, List.Sublist.cons _ (List.Sublist.refl _)⟩ (own_re k82 rfl)

theorem core_len (h : Hd) (ht : h.tn ≤ 20) : (coreBy h).length ≤ 3000 := by
  have e : coreBy h = B1 h ++ flatI 6 (fun i => numB (u64N (h.knows i))) ++ aL 32 h.sum ++ numB (u64N h.size) := rfl
  rw [e]
  unfold B1
  have h1 := B0_len h ht
  have h2 := T_len h h.tn
  have h3 := K_len h 6
  have h4 := numB_len 64 (u64N h.size) (u64N_eq _).2
  simp only [List.length_append, aL_len]
  omega
theorem by_no {h : Hd} (hf : (!rformedH h) = true) : hdBy h = [] := by unfold hdBy; rw [hf]; rfl
theorem by_yes {h : Hd} (hf : (!rformedH h) = false) : hdBy h = coreBy h ++ aL 32 h.code := by unfold hdBy; rw [hf]; rfl

theorem hdby_calls (h : Hd) (w : World) (hh : HdIn w h) (kh : HdOk h) : Calls Try.prog 88 #[.agg (encH h).toArray] w (RetM (fun v Hn => OwnL 5 1 v (hdBy h).length (bv (hdBy h)) Hn) w) := by
  refine fn_calls (n := 11) Try.func88 rfl rfl (lb rfl) ?_
  refine cseq ?_
  refine creg ?_
  refine lbxa rfl (fun b1 => ?_)
  refine l1 (asg rfl) ?_
  refine lnil ?_
  refine nthen ?_
  refine cseq ?_
  refine cseq ?_
  refine creg ?_
  refine l1 (ldw 0 Try.isAgg37 Try.sizeOf37 rfl rfl rfl) ?_
  refine l1 (cl hb77 rfl (mc rfl mn) (fun w hw => rformed_calls _ w (Sl.keptS hh hw) kh)) ?_
  refine l1 (nt rfl) ?_
  refine lnil ?_
  refine nthen ?_
  refine cif rfl (fun h1 => ?_) (fun h1 => ?_)
  · skip
    refine cseq ?_
    refine creg ?_
    refine l1 (asg rfl) ?_
    refine lnil ?_
    refine nthen ?_
    refine cret ?_
    refine nthenR ?_
    exact finM _ [] (rv1 rfl (rvt rfl)) ⟨[], List.Perm.refl _, List.nil_sublist _⟩ (by rw [by_no h1]; exact OwnL.nil 5 1)
  · have hfm : formedH h = true := by (have h2 := rformed_eq (x := h) kh.z; rw [← h2]; simpa using h1)
    have ht : h.tn ≤ 20 := Nat.le_trans (formed_tn hfm) (by decide)
    have hcl := core_len h ht
    refine cskip ?_
    refine nthen ?_
    refine cseq ?_
    refine cregH (fun x : List Ent => ⟨b1, encH h, 37⟩ :: x) 6 mo rfl ?_
    refine hq1 0 rfl (by kernel_rfl) (by kernel_rfl) (by kernel_rfl) (fun c a w h => h) (.inl ⟨_, rfl⟩) (fun w hw => ⟨[], hw⟩) (fun T => ldw 0 Try.isAgg37 Try.sizeOf37 rfl rfl rfl) ?_
    refine hq1 2 rfl (by kernel_rfl) (by kernel_rfl) (by kernel_rfl) (fun c a w h => h) (.inl ⟨_, rfl⟩) (fun w hw => ⟨[], hw⟩) (fun T => fa fa37_11 rfl) ?_
    refine hq1 3 rfl (by kernel_rfl) (by kernel_rfl) (by kernel_rfl) (fun c a w h => h) (.inl ⟨_, rfl⟩) (fun w hw => ⟨[], hw⟩) (fun T => slall Try.underlying32 Try.sizeOf5 rfl) ?_
    refine he 1 (by kernel_rfl) rfl ?_
    refine lclm hb119 rfl (mc rfl mn) (fun w' hw => core_bytes h w' (Sl.keptS hh hw) kh ht) ?_
    rintro v7 H7 k7
    obtain ⟨p7, c7, rfl⟩ := k7.form
    obtain ⟨g7, rfl⟩ := own_pos k7 (by unfold coreBy; simp only [List.length_append]; have := numB_pos (u64N h.size); omega)
    refine hnil (fun w hw => ⟨_, hw⟩) ?_
    refine he 4 (by kernel_rfl) rfl ?_
    refine lapp [_] [] H7 el56 (by rw [List.append_nil]; rfl) rfl k7 rfl (news := arr .u8 32 h.code) rfl (fun w' hw => mem_part 93 32 (hw.mem (i := 0) rfl 0)) (oneA rfl) (by decide) (by unfold maxLen; omega) (by omega) ?_
    intro g10 c10 o10 k10
    rw [← bv_aL, ← bv_app] at k10
    rw [List.append_nil]
    refine hnil (fun w hw => ⟨_, hw⟩) ?_
    refine hq1 5 rfl (by kernel_rfl) (by kernel_rfl) (by kernel_rfl) (fun c a w h => h) (.inr ⟨_, rfl⟩) (fun w hw => ⟨_, hw⟩) (fun T => asg rfl) ?_
    refine hend (by kernel_rfl) ?_
    refine nthen ?_
    refine cret ?_
    exact finM _ o10 (rv1 rfl (rvt rfl)) ⟨_, List.Perm.refl _, List.Sublist.cons _ (List.Sublist.refl _)⟩ (own_re k10 (by_yes h1).symm)
end Go.Proofs.Ytkdbjhlkahkobaa
/- bytes tell headers apart -/
namespace Go.Proofs.Ytkdbjhlkahkobaa
open Jal Go.RowKit
set_option maxRecDepth 100000
theorem numB_inj (x : Nat) : ∀ (y : Nat) (s t : List Int), numB x ++ s = numB y ++ t → x = y ∧ s = t := by
  induction x using Nat.strongRecOn with
  | _ x ih =>
    intro y s t h
    by_cases hx : 0 < x / 128
    · rw [numB_more hx] at h
      by_cases hy : 0 < y / 128
      · rw [numB_more hy] at h
        injection h with h1 h2
        obtain ⟨h3, h4⟩ := ih (x / 128) (by omega) (y / 128) s t h2
        refine ⟨?_, h4⟩
        have h5 : x % 128 = y % 128 := by omega
        omega
      · rw [numB_last hy] at h
        injection h with h1 h2
        omega
    · rw [numB_last hx] at h
      by_cases hy : 0 < y / 128
      · rw [numB_more hy] at h
        injection h with h1 h2
        omega
      · rw [numB_last hy] at h
        injection h with h1 h2
        exact ⟨by omega, h2⟩
theorem aL_inj {n : Nat} {f g : Nat → Int} {s t : List Int} (h : aL n f ++ s = aL n g ++ t) : eqA n f g = true ∧ s = t := by
  obtain ⟨h1, h2⟩ := List.append_inj h (by rw [aL_len, aL_len])
  refine ⟨eqA_iff.2 fun i hi => ?_, h2⟩
  have h3 : (aL n f)[i]? = (aL n g)[i]? := by rw [h1]
  unfold aL at h3
  rw [List.getElem?_map, List.getElem?_map, List.getElem?_range hi] at h3
  simpa using h3
theorem flatT_inj {f g : Nat → Nat → Int} : ∀ {n : Nat} {s t : List Int}, flatI n (fun i => aL 16 (f i)) ++ s = flatI n (fun i => aL 16 (g i)) ++ t → (∀ i, i < n → eqA 16 (f i) (g i) = true) ∧ s = t
  | 0, s, t, h => ⟨fun i hi => absurd hi (Nat.not_lt_zero i), h⟩
  | n + 1, s, t, h => by
    rw [flatI_succ, flatI_succ, List.append_assoc, List.append_assoc] at h
    obtain ⟨h1, h2⟩ := flatT_inj h
    obtain ⟨h3, h4⟩ := aL_inj h2
    refine ⟨fun i hi => ?_, h4⟩
    by_cases hin : i < n
    · exact h1 i hin
    · obtain rfl : i = n := by omega
      exact h3
theorem flat6 (f : Nat → List Int) : flatI 6 f = f 0 ++ (f 1 ++ (f 2 ++ (f 3 ++ (f 4 ++ (f 5 ++ []))))) := rfl
theorem u64N_inj {a b : Int} (ha : I64 a ∨ U64 a) (hb : I64 b ∨ U64 b) (hs : (I64 a ∧ I64 b) ∨ (U64 a ∧ U64 b)) (h : u64N a = u64N b) : a = b := by
  have h1 := (u64N_eq a).1
  have h2 := (u64N_eq b).1
  rw [h] at h1
  rw [h1] at h2
  simp only [IntKind.wrap, IntKind.signed, IntKind.bits] at h2
  unfold I64 U64 at hs
  simp at h2
  omega
theorem core_inj {a b : Hd} (ka : HdOk a) (kb : HdOk b) {s t : List Int} (h : coreBy a ++ aL 32 a.code ++ s = coreBy b ++ aL 32 b.code ++ t) : sameH a b = true := by
  unfold coreBy at h
  simp only [flat6, List.append_assoc, List.nil_append] at h
  obtain ⟨e1, h⟩ := numB_inj _ _ _ _ h
  obtain ⟨e2, h⟩ := numB_inj _ _ _ _ h
  obtain ⟨e3, h⟩ := aL_inj h
  obtain ⟨e4, h⟩ := numB_inj _ _ _ _ h
  simp only [List.cons_append, List.nil_append] at h
  injection h with e5 h
  obtain ⟨e6, h⟩ := numB_inj _ _ _ _ h
  obtain ⟨e7, h⟩ := aL_inj h
  obtain ⟨e8, h⟩ := numB_inj _ _ _ _ h
  rw [e8] at h
  obtain ⟨e9, h⟩ := flatT_inj h
  obtain ⟨k0, h⟩ := numB_inj _ _ _ _ h
  obtain ⟨k1, h⟩ := numB_inj _ _ _ _ h
  obtain ⟨k2, h⟩ := numB_inj _ _ _ _ h
  obtain ⟨k3, h⟩ := numB_inj _ _ _ _ h
  obtain ⟨k4, h⟩ := numB_inj _ _ _ _ h
  obtain ⟨k5, h⟩ := numB_inj _ _ _ _ h
  obtain ⟨e10, h⟩ := aL_inj h
  obtain ⟨e11, h⟩ := numB_inj _ _ _ _ h
  obtain ⟨e12, _⟩ := aL_inj h
  have iw := fun {x y : Int} (hx : I64 x) (hy : I64 y) (e : u64N x = u64N y) => u64N_inj (.inl hx) (.inl hy) (.inl ⟨hx, hy⟩) e
  have iu := fun {x y : Int} (hx : U64 x) (hy : U64 y) (e : u64N x = u64N y) => u64N_inj (.inr hx) (.inr hy) (.inr ⟨hx, hy⟩) e
  have hk : eqA 6 a.knows b.knows = true := eqA_iff.2 fun i hi => by
    match i, hi with
    | 0, _ => exact iu (ka.k 0 (by decide)) (kb.k 0 (by decide)) k0
    | 1, _ => exact iu (ka.k 1 (by decide)) (kb.k 1 (by decide)) k1
    | 2, _ => exact iu (ka.k 2 (by decide)) (kb.k 2 (by decide)) k2
    | 3, _ => exact iu (ka.k 3 (by decide)) (kb.k 3 (by decide)) k3
    | 4, _ => exact iu (ka.k 4 (by decide)) (kb.k 4 (by decide)) k4
    | 5, _ => exact iu (ka.k 5 (by decide)) (kb.k 5 (by decide)) k5
  have hc : (a.control == b.control) = true := by
    cases h1 : a.control <;> cases h2 : b.control <;> rw [h1, h2] at e5 <;> first | rfl | (exfalso; revert e5; decide)
  have ht : eqTok a.tn a.tok b.tn b.tok = true := eqTok_yes (by simp [e8]) (fun i hi => e9 i (by omega))
  unfold sameH
  rw [ht, iw ka.w kb.w e1, iu ka.s kb.s e2, e3, iw ka.e kb.e e4, hc, iu ka.t kb.t e6, e7, hk, e10, iw ka.z kb.z e11, e12]
  simp
theorem aL_eq {n : Nat} {f g : Nat → Int} (h : eqA n f g = true) : aL n f = aL n g := by
  unfold aL
  exact List.map_congr_left fun i hi => eqA_iff.1 h i (List.mem_range.1 hi)
theorem flatI_eq {f g : Nat → List Int} : ∀ {n : Nat}, (∀ i, i < n → f i = g i) → flatI n f = flatI n g
  | 0, _ => rfl
  | n + 1, h => by rw [flatI_succ, flatI_succ, flatI_eq (fun i hi => h i (by omega)), h n (by omega)]
theorem eqTok_f {n m : Nat} {t u : Nat → Nat → Int} (h : eqTok n t m u = true) : n = m ∧ ∀ i, i < n → eqA 16 (t i) (u i) = true := by
  unfold eqTok at h
  cases hd : decide ((n : Int) ≠ (m : Int)) with
  | true => rw [hd] at h; cases h
  | false =>
    rw [hd] at h
    exact ⟨by have := of_decide_eq_false hd; omega, fun i hi => List.all_eq_true.1 h i (List.mem_range.2 hi)⟩
theorem same_bytes {a b : Hd} (h : sameH a b = true) : coreBy a ++ aL 32 a.code = coreBy b ++ aL 32 b.code := by
  unfold sameH at h
  cases ht : eqTok a.tn a.tok b.tn b.tok with
  | false => rw [ht] at h; cases h
  | true =>
    rw [ht] at h
    obtain ⟨hn, htk⟩ := eqTok_f ht
    replace h : ((((((((((decide (a.writer = b.writer) && decide (a.seq = b.seq)) && eqA 32 a.prev b.prev) && decide (a.epoch = b.epoch)) && (a.control == b.control)) && decide (a.time = b.time)) && eqA 16 a.item b.item) && eqA 6 a.knows b.knows) && eqA 32 a.sum b.sum) && decide (a.size = b.size)) && eqA 32 a.code b.code) = true := h
    simp only [Bool.and_eq_true, decide_eq_true_eq, beq_iff_eq] at h
    obtain ⟨⟨⟨⟨⟨⟨⟨⟨⟨⟨h1, h2⟩, h3⟩, h4⟩, h5⟩, h6⟩, h7⟩, h8⟩, h9⟩, h10⟩, h11⟩ := h
    unfold coreBy
    rw [h1, h2, aL_eq h3, h4, h5, h6, aL_eq h7, hn, aL_eq h9, h10, aL_eq h11, flatI_eq (n := b.tn) (fun i hi => aL_eq (htk i (by omega))), flatI_eq (n := 6) (fun i hi => by rw [eqA_iff.1 h8 i hi])]
/-- of formed headers: the same bytes, the same header -/
theorem hdBy_same {a b : Hd} (ka : HdOk a) (kb : HdOk b) (fa : formedH a = true) (fb : formedH b = true) : (hdBy a == hdBy b) = sameH a b := by
  have ea : hdBy a = coreBy a ++ aL 32 a.code := by_yes (by rw [rformed_eq ka.z, fa]; rfl)
  have eb : hdBy b = coreBy b ++ aL 32 b.code := by_yes (by rw [rformed_eq kb.z, fb]; rfl)
  rw [ea, eb, Bool.eq_iff_iff, beq_iff_eq]
  exact ⟨fun h => core_inj ka kb (s := []) (t := []) (by rw [List.append_nil, List.append_nil]; exact h), same_bytes⟩
end Go.Proofs.Ytkdbjhlkahkobaa
/- bytes turned into a text -/
namespace Jal
open Go Go.RowKit Go.Proofs.Ytkdbjhlkahkobaa
def pushAll (s : ByteArray) (l : List Int) : ByteArray := l.foldl (fun s x => s.push (UInt8.ofNat x.toNat)) s
theorem run_b2s {P : Program} {w : World} {a : Addr} {c : Nat} {l : List Int} (hm : Mem w a (bv l)) : (Conv.bytesToString (.slice (some a) l.length c)).run P w = .ok (.string (pushAll ByteArray.empty l)) w := by
  have h1 := run_loadCells_list (P := P) w a (bv l) (fun j v hj => hm j v hj)
  rw [bv_len] at h1
  unfold Conv.bytesToString
  simp only [Sem.run_bind, h1, Result.andThen_ok]
  rw [← Array.forIn_toList]
  have key : ∀ (l : List Int) (s : ByteArray), (forIn (m := Sem) (bv l) s fun (x : Value) (r : ByteArray) => (do
      let .int .u8 n := x | stuck "bytesToString: byte expected"
      let s := r.push (UInt8.ofNat n.toNat)
      pure (ForInStep.yield s) : Sem (ForInStep ByteArray))).run P w = .ok (pushAll s l) w := by
    intro l
    induction l with
    | nil => intro s; rfl
    | cons x l ih =>
      intro s
      rw [show bv (x :: l) = Value.int .u8 x :: bv l from rfl, List.forIn_cons]
      simp only [Sem.run_bind, Sem.run_pure, Result.andThen_ok]
      exact ih (s.push (UInt8.ofNat x.toNat))
  have h2 := key l ByteArray.empty
  refine Eq.trans (congrArg (fun r => Result.andThen r _) h2) ?_
  rfl
end Jal
/- a row more -/
/- a row more: plain laws -/
namespace Go.Proofs.Ytkdbjhlkahkobaa
open Jal Go.RowKit
set_option maxRecDepth 100000
theorem cmpI_cases (a b : Int) : (a < b ∧ cmpI a b = -1) ∨ (a = b ∧ cmpI a b = 0) ∨ (a > b ∧ cmpI a b = 1) := by
  unfold cmpI
  simp only [cond_eq_ite, decide_eq_true_eq]
  by_cases h1 : a < b
  · exact .inl ⟨h1, by simp [h1]⟩
  · by_cases h2 : a > b
    · exact .inr (.inr ⟨h2, by simp [h1, h2]⟩)
    · exact .inr (.inl ⟨by omega, by simp [h1, h2]⟩)
def gtH (a b : Hd) : Prop := a.time > b.time ∨ a.time = b.time ∧ (a.writer > b.writer ∨ a.writer = b.writer ∧ a.seq > b.seq)
theorem cmpH_gt (a b : Hd) : cmpH a b > 0 ↔ gtH a b := by
  unfold cmpH gtH or3
  rcases cmpI_cases a.time b.time with ⟨h1, e1⟩ | ⟨h1, e1⟩ | ⟨h1, e1⟩ <;> rcases cmpI_cases a.writer b.writer with ⟨h2, e2⟩ | ⟨h2, e2⟩ | ⟨h2, e2⟩ <;>
    rcases cmpI_cases a.seq b.seq with ⟨h3, e3⟩ | ⟨h3, e3⟩ | ⟨h3, e3⟩ <;> simp [e1, e2, e3] <;> omega
/-- the greatest is not exceeded -/
theorem maxL_ge : ∀ (l : List Rw) (m : Rw), ¬ gtH m.hd (maxL m l).hd ∧ ∀ r ∈ l, ¬ gtH r.hd (maxL m l).hd
  | [], m => ⟨by show ¬ gtH m.hd m.hd; unfold gtH; omega, fun r h => absurd h (by simp)⟩
  | x :: l, m => by
    have e : maxL m (x :: l) = maxL (bif decide (cmpH x.hd m.hd > 0) then x else m) l := rfl
    rw [e]
    cases hd : decide (cmpH x.hd m.hd > 0) with
    | true =>
      have h1 := (cmpH_gt _ _).1 (of_decide_eq_true hd)
      obtain ⟨h2, h3⟩ := maxL_ge l x
      refine ⟨fun h => ?_, fun r hr => ?_⟩
      · apply h2; unfold gtH at *
        have h' : gtH m.hd (maxL x l).hd := h
        unfold gtH at h'
        omega
      · rcases List.mem_cons.1 hr with rfl | hr
        · exact h2
        · exact h3 r hr
    | false =>
      have h1 : ¬ gtH x.hd m.hd := fun h => (of_decide_eq_false hd) ((cmpH_gt _ _).2 h)
      obtain ⟨h2, h3⟩ := maxL_ge l m
      refine ⟨h2, fun r hr => ?_⟩
      rcases List.mem_cons.1 hr with rfl | hr
      · intro h
        have h' : gtH r.hd (maxL m l).hd := h
        unfold gtH at *
        omega
      · exact h3 r hr
theorem maxT_all {F : List Rw} (h : 0 < F.length) : maxT F (F.length - 1) = maxL (F.getD 0 rz) (F.drop 1) := by
  unfold maxT
  rw [List.take_of_length_le (by rw [List.length_drop]; exact Nat.le_refl _)]
theorem maxT_snoc {F : List Rw} {x : Rw} (h : 0 < F.length) : maxT (F ++ [x]) F.length = bif decide (cmpH x.hd (maxT F (F.length - 1)).hd > 0) then x else maxT F (F.length - 1) := by
  obtain ⟨y, F', rfl⟩ : ∃ y F', F = y :: F' := by cases F with | nil => simp at h | cons y F' => exact ⟨y, F', rfl⟩
  have h1 := maxT_all (F := (y :: F') ++ [x]) (by simp)
  have h2 := maxT_all (F := y :: F') (by simp)
  rw [show ((y :: F') ++ [x]).length - 1 = (y :: F').length by simp] at h1
  rw [h1, h2]
  show maxL y (F' ++ [x]) = bif decide (cmpH x.hd (maxL y F').hd > 0) then x else maxL y F'
  unfold maxL
  rw [List.foldl_append]; rfl
theorem lat_snoc (q : Rw → Bool) (L : List Rw) (x : Rw) : latR q (L ++ [x]) = bif q x then (bif (latR q L).2 then (bif decide (cmpH x.hd (latR q L).1.hd > 0) then x else (latR q L).1) else x, true) else latR q L := by
  unfold latR
  rw [List.filter_append]
  cases hq : q x with
  | false => rw [show [x].filter q = [] by simp [hq], List.append_nil]; rfl
  | true =>
    rw [show [x].filter q = [x] by simp [hq]]
    have e1 : decide ((((L.filter q) ++ [x]).length : Int) = 0) = false := by rw [List.length_append]; simp; omega
    rw [e1]
    have e3 : ((L.filter q) ++ [x]).length - 1 = (L.filter q).length := by simp
    rw [e3]
    cases hd : decide (((L.filter q).length : Int) = 0) with
    | true =>
      have h0 : L.filter q = [] := List.eq_nil_of_length_eq_zero (by have := of_decide_eq_true hd; omega)
      rw [h0]; rfl
    | false =>
      have h0 : 0 < (L.filter q).length := by have := of_decide_eq_false hd; omega
      rw [maxT_snoc h0]; rfl
theorem lat_ge (q : Rw → Bool) (L : List Rw) (r : Rw) (hr : r ∈ L) (hq : q r = true) : (latR q L).2 = true ∧ ¬ gtH r.hd (latR q L).1.hd := by
  have hm : r ∈ L.filter q := List.mem_filter.2 ⟨hr, hq⟩
  have h0 : 0 < (L.filter q).length := List.length_pos_of_mem hm
  unfold latR
  rw [decide_eq_false (show ¬ ((L.filter q).length : Int) = 0 by omega)]
  refine ⟨rfl, ?_⟩
  show ¬ gtH r.hd (maxT (L.filter q) ((L.filter q).length - 1)).hd
  rw [maxT_all h0]
  obtain ⟨y, F', hF⟩ : ∃ y F', L.filter q = y :: F' := by cases h : L.filter q with | nil => rw [h] at h0; simp at h0 | cons y F' => exact ⟨y, F', rfl⟩
  rw [hF] at hm ⊢
  obtain ⟨h1, h2⟩ := maxL_ge F' y
  rcases List.mem_cons.1 hm with rfl | hm
  · exact h1
  · exact h2 r hm
theorem lat_in (q : Rw → Bool) (L : List Rw) (h : (latR q L).2 = true) : (latR q L).1 ∈ L ∧ q (latR q L).1 = true := by
  unfold latR at h ⊢
  cases hd : decide (((L.filter q).length : Int) = 0) with
  | true => rw [hd] at h; cases h
  | false =>
    have h0 : 0 < (L.filter q).length := by have := of_decide_eq_false hd; omega
    exact List.mem_filter.1 (maxT_mem (i := (L.filter q).length - 1) h0)
/-- later than the latest of all: later than that of some -/
theorem lat_later (q : Rw → Bool) (L : List Rw) (x : Rw) (h : (latR anyR L).2 = false ∨ laterH x.hd (latR anyR L).1.hd = true) (hq : q x = true) : latR q (L ++ [x]) = (x, true) := by
  rw [lat_snoc, hq]
  cases h2 : (latR q L).2 with
  | false => rfl
  | true =>
    obtain ⟨h3, h4⟩ := lat_in q L h2
    obtain ⟨h5, h6⟩ := lat_ge anyR L _ h3 rfl
    rcases h with h | h
    · rw [h5] at h; cases h
    · have h7 := (cmpH_gt _ _).1 (of_decide_eq_true h)
      have : decide (cmpH x.hd (latR q L).1.hd > 0) = true := decide_eq_true ((cmpH_gt _ _).2 (by unfold gtH at *; omega))
      rw [this]; rfl
theorem lat_not (q : Rw → Bool) (L : List Rw) (x : Rw) (hq : q x = false) : latR q (L ++ [x]) = latR q L := by rw [lat_snoc, hq]; rfl
theorem made_f (tok : Nat → Int) (L : List Rw) : (madeI tok L).hd = (latR anyR L).1.hd ∧ (madeI tok L).known = (latR anyR L).1.known ∧ (madeI tok L).alive = ((latR valuedR L).2 && decide ((latR valuedR L).1.ch.op = 1)) ∧
    (madeI tok L).name = (latR knownR L).1.ch.name ∧ (madeI tok L).value = bif ((latR valuedR L).2 && decide ((latR valuedR L).1.ch.op = 1)) then (latR valuedR L).1.ch.value else ByteArray.empty := by
  unfold madeI
  cases (latR valuedR L).2 && decide ((latR valuedR L).1.ch.op = 1) <;> exact ⟨rfl, rfl, rfl, rfl, rfl⟩
end Go.Proofs.Ytkdbjhlkahkobaa
/- a row more at the end -/
namespace Go.Proofs.Ytkdbjhlkahkobaa
open Jal Go.RowKit
set_option maxRecDepth 100000
def lx (l : Nat → Rw) (n : Nat) (x : Rw) (i : Nat) : Rw := if i < n then l i else x
theorem lx_lt {l : Nat → Rw} {n i : Nat} {x : Rw} (h : i < n) : lx l n x i = l i := if_pos h
theorem lx_n (l : Nat → Rw) (n : Nat) (x : Rw) : lx l n x n = x := if_neg (Nat.lt_irrefl n)
theorem lx_all {Pr : Rw → Prop} {l : Nat → Rw} {n : Nat} {x : Rw} (h : ∀ i, i < n → Pr (l i)) (hx : Pr x) : ∀ i, i < n + 1 → Pr (lx l n x i) := fun i hi => by
  by_cases h1 : i < n
  · rw [lx_lt h1]; exact h i h1
  · obtain rfl : i = n := by omega
    rw [lx_n]; exact hx
theorem rowsL_lx (l : Nat → Rw) (n : Nat) (x : Rw) : rowsL (lx l n x) (n + 1) = rowsL l n ++ [x] := by
  rw [rowsL_succ, lx_n]
  congr 1
  exact List.map_congr_left fun i hi => lx_lt (List.mem_range.1 hi)
theorem fewRow_le {r : Rw} (h : fewRow r = true) : r.hd.tn ≤ 20 ∧ r.ch.gn ≤ 20 := by
  unfold fewRow bigR at h
  simp only [Bool.and_eq_true, Bool.not_eq_true', Bool.or_eq_false_iff, decide_eq_false_iff_not] at h
  obtain ⟨⟨⟨⟨h1, h2⟩, _⟩, _⟩, _⟩ := h
  omega
theorem fewR_row {l : Nat → Rw} {n : Nat} {k : Int} (h : fewR l n k = true) (hk : k ≤ 100) : (n : Int) ≤ k ∧ ∀ i, i < n → fewRow (l i) = true := by
  unfold fewR at h
  rw [Bool.and_eq_true, decide_eq_true_eq] at h
  refine ⟨h.2, fun i hi => ?_⟩
  exact List.all_eq_true.1 h.1 i (List.mem_range.2 (by omega))
end Go.Proofs.Ytkdbjhlkahkobaa
/- a row more: what it changes -/
namespace Go.Proofs.Ytkdbjhlkahkobaa
open Jal Go.RowKit
set_option maxRecDepth 100000
theorem counted_lx (l : Nat → Rw) (n : Nat) (x : Rw) : counted (lx l n x) n = counted l n := by
  unfold counted
  congr 1
  exact List.map_congr_left fun i hi => lx_lt (List.mem_range.1 hi)
theorem more_rows {l : Nat → Rw} {n : Nat} {x : Rw} (hkey : ∀ j, j < n → (decide ((l j).hd.writer = x.hd.writer) && decide ((l j).hd.seq = x.hd.seq)) = false) (hf : formedR x = true) :
    ofRows x.hd.item (counted (lx l n x) (n + 1)) = ofRows x.hd.item (counted l n) ++ [x] := by
  have hns : seenR (counted l n) x = false := by
    unfold seenR
    rw [List.any_eq_false]
    intro s hs
    obtain ⟨j, hj, rfl, _⟩ := cnt_mem l n s hs
    have h1 := hkey j hj
    unfold eq140 keyR
    intro h2
    simp only [Bool.and_eq_true, decide_eq_true_eq] at h2
    rw [decide_eq_true h2.1.symm, decide_eq_true h2.2.symm] at h1
    cases h1
  rw [counted_succ, counted_lx, lx_n]
  unfold cntStep
  rw [hf, hns]
  show ofRows x.hd.item (counted l n ++ [x]) = _
  unfold ofRows
  rw [List.filter_append]
  congr 1
  rw [List.filter_cons, eqA_refl]; rfl
theorem any_2 (L : List Rw) : (latR anyR L).2 = !decide ((L.length : Int) = 0) := by
  unfold latR
  rw [show L.filter anyR = L from List.filter_eq_self.2 (fun _ _ => rfl)]
  cases decide ((L.length : Int) = 0) <;> rfl
theorem emptyB_list {s : ByteArray} (h : emptyB s = true) : ByteArray.empty.toList = s.toList := by
  unfold emptyB at h
  exact (eq_of_beq h).symm
structure MoreF (a b : It × Bool) (x : Rw) : Prop where
  has : b.2 = true
  old : a.2 = true → laterH x.hd a.1.hd = false → b.1.hd = a.1.hd ∧ b.1.known = a.1.known
  new : (a.2 && !laterH x.hd a.1.hd) = false → b.1.hd = x.hd ∧ b.1.known = x.known
  blank : (a.2 && !laterH x.hd a.1.hd) = false → x.known = false → b.1.alive = a.1.alive ∧ b.1.value = a.1.value
  tags : (a.2 && !laterH x.hd a.1.hd) = false → x.known = true → x.ch.op = 3 → b.1.alive = a.1.alive ∧ b.1.name = x.ch.name
  life : (a.2 && !laterH x.hd a.1.hd) = false → x.known = true → x.ch.op ≠ 3 → b.1.alive = decide (x.ch.op = 1) ∧ b.1.value.toList = x.ch.value.toList ∧ b.1.name = x.ch.name
theorem more_facts {l : Nat → Rw} {n : Nat} {x : Rw} (hkey : ∀ j, j < n → (decide ((l j).hd.writer = x.hd.writer) && decide ((l j).hd.seq = x.hd.seq)) = false) (kx : RwOk x) (hf : rformedR x = true) :
    MoreF (ofI x.hd.item l n) (ofI x.hd.item (lx l n x) (n + 1)) x := by
  have hf2 : formedR x = true := by rw [← rformedR_eq kx]; exact hf
  have hr := more_rows hkey hf2
  obtain ⟨L, hL⟩ : ∃ L, L = ofRows x.hd.item (counted l n) := ⟨_, rfl⟩
  have hb : ofI x.hd.item (lx l n x) (n + 1) = (madeI x.hd.item (L ++ [x]), true) := by
    unfold ofI
    rw [hr, ← hL, decide_eq_false (by rw [List.length_append]; simp; omega)]; rfl
  have ha2 : (ofI x.hd.item l n).2 = (latR anyR L).2 := by
    rw [any_2]
    unfold ofI
    rw [← hL]
    cases decide ((L.length : Int) = 0) <;> rfl
  have hz : L = [] → (ofI x.hd.item l n).1 = iz := fun h => by
    unfold ofI
    rw [← hL, h]; rfl
  have ha1 : (latR anyR L).2 = true → (ofI x.hd.item l n).1 = madeI x.hd.item L := fun h => by
    rw [any_2] at h
    unfold ofI
    rw [← hL]
    cases hd : decide ((L.length : Int) = 0) with
    | true => rw [hd] at h; cases h
    | false => rfl
  have hnil : (latR anyR L).2 = false → L = [] := fun h => by
    rw [any_2] at h
    cases hd : decide ((L.length : Int) = 0) with
    | true => exact List.eq_nil_of_length_eq_zero (by have := of_decide_eq_true hd; omega)
    | false => rw [hd] at h; cases h
  obtain ⟨f1, f2, f3, f4, f5⟩ := made_f x.hd.item (L ++ [x])
  obtain ⟨g1, g2, g3, g4, g5⟩ := made_f x.hd.item L
  have hal : (ofI x.hd.item l n).1.alive = ((latR valuedR L).2 && decide ((latR valuedR L).1.ch.op = 1)) := by
    cases h : (latR anyR L).2 with
    | true => rw [ha1 h, g3]
    | false => rw [hz (hnil h), hnil h]; rfl
  have hva : (ofI x.hd.item l n).1.value = bif ((latR valuedR L).2 && decide ((latR valuedR L).1.ch.op = 1)) then (latR valuedR L).1.ch.value else ByteArray.empty := by
    cases h : (latR anyR L).2 with
    | true => rw [ha1 h, g5]
    | false => rw [hz (hnil h), hnil h]; rfl
  have hlt : ((ofI x.hd.item l n).2 && !laterH x.hd (ofI x.hd.item l n).1.hd) = false → (latR anyR L).2 = false ∨ laterH x.hd (latR anyR L).1.hd = true := fun h => by
    rw [ha2] at h
    cases h2 : (latR anyR L).2 with
    | false => exact .inl rfl
    | true =>
      rw [h2, ha1 h2, g1] at h
      exact .inr (by simpa using h)
  refine ⟨by rw [hb], fun h1 h2 => ?_, fun h => ?_, fun h hk => ?_, fun h hk ho => ?_, fun h hk ho => ?_⟩
  · rw [ha2] at h1
    have e := ha1 h1
    rw [e] at h2 ⊢
    rw [g1] at h2
    rw [hb]
    show (madeI x.hd.item (L ++ [x])).hd = _ ∧ (madeI x.hd.item (L ++ [x])).known = _
    rw [f1, f2, g1, g2]
    have : latR anyR (L ++ [x]) = ((latR anyR L).1, true) := by
      rw [lat_snoc, h1]
      show (bif decide (cmpH x.hd (latR anyR L).1.hd > 0) then x else (latR anyR L).1, true) = _
      rw [show decide (cmpH x.hd (latR anyR L).1.hd > 0) = false from h2]; rfl
    rw [this]
    exact ⟨rfl, rfl⟩
  · rw [hb]
    show (madeI x.hd.item (L ++ [x])).hd = _ ∧ (madeI x.hd.item (L ++ [x])).known = _
    rw [f1, f2, lat_later anyR L x (hlt h) rfl]
    exact ⟨rfl, rfl⟩
  · rw [hb, hal, hva]
    show (madeI x.hd.item (L ++ [x])).alive = _ ∧ (madeI x.hd.item (L ++ [x])).value = _
    rw [f3, f5, lat_not valuedR L x (by unfold valuedR; rw [hk]; rfl)]
    exact ⟨rfl, rfl⟩
  · rw [hb, hal]
    show (madeI x.hd.item (L ++ [x])).alive = _ ∧ (madeI x.hd.item (L ++ [x])).name = _
    rw [f3, f4, lat_not valuedR L x (by unfold valuedR; rw [hk, ho]; rfl), lat_later knownR L x (hlt h) hk]
    exact ⟨rfl, rfl⟩
  · rw [hb]
    show (madeI x.hd.item (L ++ [x])).alive = _ ∧ (madeI x.hd.item (L ++ [x])).value.toList = _ ∧ (madeI x.hd.item (L ++ [x])).name = _
    rw [f3, f4, f5, lat_later valuedR L x (hlt h) (by unfold valuedR; rw [hk, decide_eq_true ho]; rfl), lat_later knownR L x (hlt h) hk]
    refine ⟨Bool.true_and _, ?_, rfl⟩
    show (bif (true && decide (x.ch.op = 1)) then x.ch.value else ByteArray.empty).toList = _
    by_cases h1 : x.ch.op = 1
    · rw [decide_eq_true h1]; rfl
    · rw [decide_eq_false h1]
      show ByteArray.empty.toList = _
      apply emptyB_list
      unfold rformedR at hf
      rw [hk] at hf
      cases hh : !rformedH x.hd || x.hd.control with
      | true => rw [hh] at hf; cases hf
      | false =>
        rw [hh] at hf
        have h3 : rfchB x.ch = true := hf
        unfold rfchB at h3
        cases h4 : rchB x.ch with
        | true => rw [h4] at h3; cases h3
        | false =>
          unfold rchB at h4
          rw [Bool.or_eq_false_iff] at h4
          have h5 := h4.2
          rw [decide_eq_true h1] at h5
          simpa using h5
end Go.Proofs.Ytkdbjhlkahkobaa
