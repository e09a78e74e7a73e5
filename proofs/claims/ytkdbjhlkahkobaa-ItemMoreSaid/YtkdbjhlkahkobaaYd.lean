/- walks, printed by a program of ours -/
import Derived.Test.YtkdbjhlkahkobaaTy
import Derived.Test.YtkdbjhlkahkobaaDef
import Derived.Test.YtkdbjhlkahkobaaYc
import Derived.Test.YtkdbjhlkahkobaaPrt
import Derived.Test.YtkdbjhlkahkobaaMp3
namespace Go.Proofs.Ytkdbjhlkahkobaa
open Jal Go.RowKit
set_option maxRecDepth 100000
theorem seen_gt (S : List Rw) (r : Rw) : decide ((bif seenR S r then (1 : Int) else 0) > 0) = seenR S r := by cases seenR S r <;> rfl

set_option maxHeartbeats 2000000 in
theorem parted_calls (w : World) (p : Option Addr) (n c : Nat) (l : Nat → Rw) (hn : n ≤ 100) (hl : Sl w p n 130 (fun i => encR (l i))) (hx : ∀ i, i < n → RwIn w (l i)) (kx : ∀ i, i < n → RwOk (l i)) : Calls Try.prog 86 #[.slice p n c] w (PartR w l n) := by
  refine fn_calls (n := 50) Try.func86 rfl rfl (lb rfl) ?_
  refine cseq ?_
  refine creg ?_
  refine l1 (asg rfl) ?_
  refine lnil ?_
  refine nthen ?_
  refine cseq ?_
  refine creg ?_
  refine lmkm kv34 (fun w1 r1 hb1 hlo1 hl1 ho1 => ?_)
  refine l1 (asg rfl) ?_
  refine lnil ?_
  refine nthen ?_
  refine cseq ?_
  refine creg ?_
  refine lmkm kv140 (fun w2 r2 hb2 hlo2 hl2 ho2 => ?_)
  have hP0 : ParOk w r1 r2 l n ⟨0, [], [], w2⟩ := ⟨Nat.zero_le _, hb1.trans (hb2.mono hb1.size), hlo1, Nat.le_trans hb1.size hlo2, Nat.lt_of_lt_of_le hl1 hb2.size, hl2, by omega, (hb2.block r1 hl1).trans ho1, ho2, rfl, rfl, fun g hg => absurd hg (by simp), fun g hg => absurd hg (by simp)⟩
  refine l1 (asg rfl) ?_
  refine lnil ?_
  refine nthen ?_
  refine cseq ?_
  refine cseq ?_
  refine creg ?_
  refine l1 (mvs rfl) ?_
  refine l1 (lens sl74 rfl rfl) ?_
  refine l1 (mvi rfl) ?_
  refine lnil ?_
  refine nthen ?_
  refine cblock ?_
  refine cloopB (σ := ParS) (fun s => s.W) (fun s => [(3, .map (some r1)), (4, .map (some r2)), (10, .slice p n c), (11, .int .i64 (n : Int)), (12, .int .i64 (s.i : Int))]) (fun s => gh s.G) (fun s => ParOk w r1 r2 l n s) (fun s => n - s.i) ⟨0, [], [], w2⟩ rfl hP0 ⟨rfl, rfl, rfl, rfl, rfl, trivial⟩ (List.Sublist.refl _) ?_
  rintro ⟨i, G, S, W⟩ j hok
  show WC _ _ W (gh G) _ _ (over j [(3, .map (some r1)), (4, .map (some r2)), (10, .slice p n c), (11, .int .i64 (n : Int)), (12, .int .i64 (i : Int))])
  have hi : i ≤ n := hok.hi
  have hbw : Below w.heap.size w W := hok.below
  have hl1 : r1 < W.heap.size := hok.l1
  have hl2 : r2 < W.heap.size := hok.l2
  have ho1 : W.heap[r1]? = some (mob kv34 (gm G)) := hok.o1
  have ho2 : W.heap[r2]? = some (mob kv140 (cm S)) := hok.o2
  refine cseq ?_
  refine creg ?_
  refine l1 (lss rfl rfl) ?_
  refine lnil ?_
  refine nthen ?_
  refine cseq ?_
  refine cif rfl (fun h1 => ?_) (fun h1 => ?_)
  · have hlt : i < n := by (have := dt h1; omega)
    obtain ⟨b, o, hp, hbl, hm⟩ := hl.at hlt
    refine cskip ?_
    refine nthen ?_
    refine cseq ?_
    refine cblock ?_
    refine cseq ?_
    refine creg ?_
    refine l1 (isp sl74 hp rfl rfl (by omega) (by omega)) ?_
    refine l1 (ldam (vs := encR (l i)) Try.isAgg79 Try.sizeOf79 rfl rfl (fun w' hw => ((hm i hlt).kept hbw hbl).kept hw.below (Nat.lt_of_lt_of_le hbl hbw.size))) ?_
    refine lal (zs := encR rz) Try.zeroValue79 rfl (fun b1 => ?_)
    refine wl_perm (ins_perm 0 _ _) ?_
    refine lstw 0 rfl rfl rfl Try.sizeOf79 rfl rfl rfl ?_
    refine lnil ?_
    refine nthen ?_
    refine cseq ?_
    refine creg ?_
    refine l1 (fa fa79_0 rfl) ?_
    refine l1 (fa fa37_0 rfl) ?_
    refine l1 (ldc 0 Try.isAgg3 rfl rfl rfl) ?_
    refine l1 (fa fa79_0 rfl) ?_
    refine l1 (fa fa37_1 rfl) ?_
    refine l1 (ldc 0 Try.isAgg22 rfl rfl rfl) ?_
    refine l1 (bldk (zs := [.int .i64 (l i).hd.writer, .int .u64 (l i).hd.seq]) rfl (bk140 _ _)) ?_
    refine lal Try.zeroValue140 rfl (fun b2 => ?_)
    refine wl_perm (ins_perm 1 _ _) ?_
    refine lstw 1 rfl rfl rfl Try.sizeOf140 rfl rfl rfl ?_
    refine lnil ?_
    refine nthen ?_
    refine cseq ?_
    refine cseq ?_
    refine creg ?_
    refine l1 (ldw 0 Try.isAgg79 Try.sizeOf79 rfl rfl rfl) ?_
    refine l1 (cl hb54 rfl (mc rfl mn) (fun w hw => rowformed_calls (l i) w ((hx i hlt).keptS (H := []) ⟨hbw.trans (hw.below.mono hbw.size), fun e he => absurd he (by simp), .nil⟩) (kx i hlt))) ?_
    refine l1 (nt rfl) ?_
    refine l1 (mvb rfl) ?_
    refine l1g rfl (gwf rfl) (fun h => mv rfl) ?_
    refine l1g rfl (gwf rfl) (fun h => ldw 1 Try.isAgg140 Try.sizeOf140 rfl rfl rfl) ?_
    refine l1g rfl (gwf rfl) (fun h => lkpv K140 (k := keyR (l i)) (v := .int .i64 (bif seenR S (l i) then 1 else 0)) Try.underlying138 Try.zeroValue3 (gvt h) (gvt h) (fun w' hw => (hw.below.block r2 hl2).trans ho2) (cm_val S (l i))) ?_
    refine l1g rfl (gwf rfl) (fun h => gtr (gvt h) rfl) ?_
    refine l1 (pk_or rfl rfl rfl) ?_
    refine lnil ?_
    refine nthen ?_
    refine cif rfl (fun h2 => ?_) (fun h2 => ?_)
    · have hkeep : (!formedR (l i) || seenR S (l i)) = true := by (rw [seen_gt] at h2; exact h2)
      refine cexit ?_
      refine nthenE ?_
      refine nblkE ?_
      refine nthen ?_
      refine creg ?_
      first | refine l1 (addn rfl rfl (ri (by omega) (by omega))) ?_ | refine l1 (add rfl rfl) ?_
      refine l1 (mvi rfl) ?_
      refine lnil ?_
      exact nIB ⟨i + 1, G, S, W⟩ rfl (hok.skip hlt hkeep) (by show n - (i + 1) < n - i; omega) ⟨rfl, rfl, rfl, rfl, rfl, trivial⟩ (List.Sublist.cons _ (List.Sublist.cons _ (List.Sublist.refl _)))
    · have hkeep : (!formedR (l i) || seenR S (l i)) = false := by (rw [seen_gt] at h2; exact h2)
      have hns : seenR S (l i) = false := (Bool.or_eq_false_iff.1 hkeep).2
      refine cskip ?_
      refine nthen ?_
      refine cseq ?_
      refine cregHB (⟨b1, encR (l i), 79⟩ :: ⟨b2, [.int .i64 (l i).hd.writer, .int .u64 (l i).hd.seq], 140⟩ :: gh G) 7 mo rfl ?_
      refine hq1B 0 rfl (by kernel_rfl) (by kernel_rfl) (by kernel_rfl) (fun c a w h => h) (.inr ⟨_, rfl⟩) (fun w hw => ⟨_, hw⟩) (fun T => mv rfl) ?_
      refine hq1B 1 rfl (by kernel_rfl) (by kernel_rfl) (by kernel_rfl) (fun c a w h => h) (.inl ⟨_, rfl⟩) (fun w hw => ⟨_, hw⟩) (fun T => ldw 1 Try.isAgg140 Try.sizeOf140 rfl rfl rfl) ?_
      refine hem2 2 4 (by kernel_rfl) rfl rfl ?_ ?_
      · skip
        refine l1 (lkpv K140 (k := keyR (l i)) (v := .int .i64 0) Try.underlying138 Try.zeroValue3 rfl rfl (fun w' hw => (hw.below.block r2 hl2).trans ho2) (cm_val0 hns)) ?_
        refine hnil (fun w hw => ⟨_, hw⟩) ?_
        first | refine hq1B 3 rfl (by kernel_rfl) (by kernel_rfl) (by kernel_rfl) (fun c a w h => h) (.inl ⟨_, rfl⟩) (fun w hw => ⟨_, hw⟩) (fun T => addn rfl rfl (ri (by omega) (by omega))) ?_ | refine hq1B 3 rfl (by kernel_rfl) (by kernel_rfl) (by kernel_rfl) (fun c a w h => h) (.inl ⟨_, rfl⟩) (fun w hw => ⟨_, hw⟩) (fun T => add rfl rfl) ?_
        refine he 4 (by kernel_rfl) rfl ?_
        refine lme K140 (k := keyR (l i)) (z := .int .i64 0) Try.underlying138 Try.zeroValue3 rfl rfl hl2 ho2 ?_
        rw [(cm_put hns _).1, (cm_put hns (.int .i64 0)).2, cm_val0 hns]
        refine hnil (fun w hw => ⟨_, hw⟩) ?_
        refine hq1B 5 rfl (by kernel_rfl) (by kernel_rfl) (by kernel_rfl) (fun c a w h => h) (.inl ⟨_, rfl⟩) (fun w hw => ⟨_, hw⟩) (fun T => ext (vs := [.int .i64 0, goInt S.length]) rfl rfl) ?_
        refine he 6 (by kernel_rfl) rfl ?_
        refine lesm (v := one64) (i := S.length) (M := cm S ++ [(keyR (l i), .int .i64 0)]) rfl rfl rfl (by rw [setB_size]; exact hl2) (setB_same hl2) (by rw [List.length_append, cm_len]; simp) ?_
        rw [cm_set]
        refine hnil (fun w hw => ⟨_, hw⟩) ?_
        refine hend (by kernel_rfl) ?_
        rw [setB_setB]
        refine nthen ?_
        refine creg ?_
        refine l1 (mv rfl) ?_
        refine l1 (fa fa79_0 rfl) ?_
        refine l1 (fa fa37_6 rfl) ?_
        refine l1 (lda 0 Try.isAgg34 Try.sizeOf34 rfl rfl (encR_item _) rfl) ?_
        refine l1 (ldw 0 Try.isAgg79 Try.sizeOf79 rfl rfl rfl) ?_
        refine lbs Try.underlying74 rfl (bs74 (l i)) (fun b3 => ?_)
        refine wl_perm (ins_perm 2 _ _) ?_
        obtain ⟨A, B, oe, rows, v, jj, hA, hown, hrl, hfind, hnext⟩ := grp_step (l i) i G 0 hok.ok hok.len
        have hF := grp_find hfind
        refine lme K34 (k := (l i).hd.item) (M := gm G) (z := znil) Try.underlying117 Try.zeroValue74 rfl rfl (by rw [setB_size]; exact hl1) ((setB_other hok.ne).trans ho1) ?_
        rw [hF.1, hF.2.1, hF.2.2.1]
        refine l1 (ext (vs := [v, goInt jj]) rfl rfl) ?_
        refine lapp3 [_, _, _] A B oe el74 (by rw [hA]; rfl) rfl hown rfl (news := encR (l i)) rfl (fun w' hw => by have := hw.mem (i := 2) rfl 0; simpa using this) (encR_one _) (by decide) (by unfold maxLen; omega) (by omega) ?_
        intro g cap oe' hown'
        refine l1 (ext (vs := [v, goInt jj]) rfl rfl) ?_
        refine lesm (i := jj) (v := .slice (some ⟨g, 0, none⟩) (rows.length + 1) cap) rfl rfl rfl (by rw [setB_size, setB_size]; exact hl1) (setB_same (by rw [setB_size]; exact hl1)) hF.2.2.2 ?_
        obtain ⟨G', hG1, hG2, hG3, hG4, hG5⟩ := hnext _ _ (by rw [List.flatMap_append]; simpa using hown')
        rw [show setM (gput G (l i) jj) jj (.slice (some ⟨g, 0, none⟩) (rows.length + 1) cap) = gm G' from hG5.symm, setB_setB]
        refine lnil ?_
        refine nblkN ?_
        refine nthen ?_
        refine creg ?_
        first | refine l1 (addn rfl rfl (ri (by omega) (by omega))) ?_ | refine l1 (add rfl rfl) ?_
        refine l1 (mvi rfl) ?_
        refine lnil ?_
        exact nIB ⟨i + 1, G', S ++ [l i], _⟩ rfl (by (have hnx := hok.next hlt hkeep hG2 hG3 hG4); exact hnx) (by show n - (i + 1) < n - i; omega) ⟨rfl, rfl, rfl, rfl, rfl, trivial⟩ (by show (gh G').Sublist _; rw [hG1]; exact (List.Sublist.cons _ (List.Sublist.cons _ (List.Sublist.cons _ (List.Sublist.refl _)))))
      · skip
        refine lme K140 (k := keyR (l i)) (z := .int .i64 0) Try.underlying138 Try.zeroValue3 rfl rfl hl2 ho2 ?_
        rw [(cm_put hns _).1, (cm_put hns (.int .i64 0)).2, cm_val0 hns]
        refine hnil (fun w hw => ⟨_, hw⟩) ?_
        refine hq1B 5 rfl (by kernel_rfl) (by kernel_rfl) (by kernel_rfl) (fun c a w h => h) (.inl ⟨_, rfl⟩) (fun w hw => ⟨_, hw⟩) (fun T => ext (vs := [.int .i64 0, goInt S.length]) rfl rfl) ?_
        refine he 2 (by kernel_rfl) rfl ?_
        refine l1 (lkpv K140 (k := keyR (l i)) (v := .int .i64 0) Try.underlying138 Try.zeroValue3 rfl rfl (fun w' hw => (hw.below.block r2 (by rw [setB_size]; exact hl2)).trans (setB_same hl2)) (cm_val2 hns)) ?_
        refine hnil (fun w hw => ⟨_, hw⟩) ?_
        first | refine hq1B 3 rfl (by kernel_rfl) (by kernel_rfl) (by kernel_rfl) (fun c a w h => h) (.inl ⟨_, rfl⟩) (fun w hw => ⟨_, hw⟩) (fun T => addn rfl rfl (ri (by omega) (by omega))) ?_ | refine hq1B 3 rfl (by kernel_rfl) (by kernel_rfl) (by kernel_rfl) (fun c a w h => h) (.inl ⟨_, rfl⟩) (fun w hw => ⟨_, hw⟩) (fun T => add rfl rfl) ?_
        refine he 6 (by kernel_rfl) rfl ?_
        refine lesm (v := one64) (i := S.length) (M := cm S ++ [(keyR (l i), .int .i64 0)]) rfl rfl rfl (by rw [setB_size]; exact hl2) (setB_same hl2) (by rw [List.length_append, cm_len]; simp) ?_
        rw [cm_set]
        refine hnil (fun w hw => ⟨_, hw⟩) ?_
        refine hend (by kernel_rfl) ?_
        rw [setB_setB]
        refine nthen ?_
        refine creg ?_
        refine l1 (mv rfl) ?_
        refine l1 (fa fa79_0 rfl) ?_
        refine l1 (fa fa37_6 rfl) ?_
        refine l1 (lda 0 Try.isAgg34 Try.sizeOf34 rfl rfl (encR_item _) rfl) ?_
        refine l1 (ldw 0 Try.isAgg79 Try.sizeOf79 rfl rfl rfl) ?_
        refine lbs Try.underlying74 rfl (bs74 (l i)) (fun b3 => ?_)
        refine wl_perm (ins_perm 2 _ _) ?_
        obtain ⟨A, B, oe, rows, v, jj, hA, hown, hrl, hfind, hnext⟩ := grp_step (l i) i G 0 hok.ok hok.len
        have hF := grp_find hfind
        refine lme K34 (k := (l i).hd.item) (M := gm G) (z := znil) Try.underlying117 Try.zeroValue74 rfl rfl (by rw [setB_size]; exact hl1) ((setB_other hok.ne).trans ho1) ?_
        rw [hF.1, hF.2.1, hF.2.2.1]
        refine l1 (ext (vs := [v, goInt jj]) rfl rfl) ?_
        refine lapp3 [_, _, _] A B oe el74 (by rw [hA]; rfl) rfl hown rfl (news := encR (l i)) rfl (fun w' hw => by have := hw.mem (i := 2) rfl 0; simpa using this) (encR_one _) (by decide) (by unfold maxLen; omega) (by omega) ?_
        intro g cap oe' hown'
        refine l1 (ext (vs := [v, goInt jj]) rfl rfl) ?_
        refine lesm (i := jj) (v := .slice (some ⟨g, 0, none⟩) (rows.length + 1) cap) rfl rfl rfl (by rw [setB_size, setB_size]; exact hl1) (setB_same (by rw [setB_size]; exact hl1)) hF.2.2.2 ?_
        obtain ⟨G', hG1, hG2, hG3, hG4, hG5⟩ := hnext _ _ (by rw [List.flatMap_append]; simpa using hown')
        rw [show setM (gput G (l i) jj) jj (.slice (some ⟨g, 0, none⟩) (rows.length + 1) cap) = gm G' from hG5.symm, setB_setB]
        refine lnil ?_
        refine nblkN ?_
        refine nthen ?_
        refine creg ?_
        first | refine l1 (addn rfl rfl (ri (by omega) (by omega))) ?_ | refine l1 (add rfl rfl) ?_
        refine l1 (mvi rfl) ?_
        refine lnil ?_
        exact nIB ⟨i + 1, G', S ++ [l i], _⟩ rfl (by (have hnx := hok.next hlt hkeep hG2 hG3 hG4); exact hnx) (by show n - (i + 1) < n - i; omega) ⟨rfl, rfl, rfl, rfl, rfl, trivial⟩ (by show (gh G').Sublist _; rw [hG1]; exact (List.Sublist.cons _ (List.Sublist.cons _ (List.Sublist.cons _ (List.Sublist.refl _)))))
  · have hge : i = n := by (have := df h1; omega)
    refine cexit ?_
    refine nthenE ?_
    refine nIE ?_
    refine nblkE ?_
    refine nthen ?_
    refine cseq ?_
    refine creg ?_
    refine l1 (mv rfl) ?_
    refine l1 (asg rfl) ?_
    refine lnil ?_
    refine nthen ?_
    refine cret ?_
    exact finB (.map (some r1)) (rv1 rfl (rvt rfl)) (fun w' hw => ⟨r1, W, G, rfl, hbw, hok.lo1, hl1, ho1, hok.ok, by (have hg1 : pg G = partsOf S := hok.grp; have hg2 : S = counted l i := hok.cnt; rw [hg1, hg2, hge]), fun g hg => Nat.le_trans (hok.len g hg) hi, hw⟩)
end Go.Proofs.Ytkdbjhlkahkobaa
