/- several texts of ours, joined: Yg, Sam, Hg, Yi, Rof -/
import Derived.Test.YtkdbjhlkahkobaaZa
import Derived.Test.YtkdbjhlkahkobaaZf
import Derived.Test.YtkdbjhlkahkobaaZe
import Derived.Test.YtkdbjhlkahkobaaZb
/- walks, printed by a program of ours -/
namespace Go.Proofs.Ytkdbjhlkahkobaa
open Jal Go.RowKit
set_option maxRecDepth 100000
theorem core_ok {a b : Hd} (h : core a = core b) (k : HdOk b) : HdOk a := by
  have k2 : HdOk (core b) := hdOk_retok k none 0
  rw [← h] at k2
  exact hdOk_retok k2 a.tp a.tc
theorem hz_ok : HdOk hz := ⟨by unfold I64; decide, by unfold U64; decide, by unfold I64; decide, by unfold U64; decide, by decide, fun _ _ => by show U64 0; unfold U64; decide, by unfold I64; decide, fun i hi => absurd hi (Nat.not_lt_zero i), fun _ _ => by show (0 : Int) ≤ 0 ∧ (0 : Int) ≤ 255; decide, fun _ _ => by show (0 : Int) ≤ 0 ∧ (0 : Int) ≤ 255; decide, fun _ _ => by show (0 : Int) ≤ 0 ∧ (0 : Int) ≤ 255; decide, fun _ _ => by show (0 : Int) ≤ 0 ∧ (0 : Int) ≤ 255; decide⟩
theorem coreI_f {a b : It} (h : coreI a = coreI b) : core a.hd = core b.hd ∧ a.known = b.known ∧ a.alive = b.alive ∧ a.name = b.name ∧ a.value = b.value :=
  ⟨show (coreI a).hd = (coreI b).hd by rw [h], show (coreI a).known = (coreI b).known by rw [h], show (coreI a).alive = (coreI b).alive by rw [h], show (coreI a).name = (coreI b).name by rw [h], show (coreI a).value = (coreI b).value by rw [h]⟩
theorem of_ok {tok : Nat → Int} {l : Nat → Rw} {n : Nat} (k : ∀ i, i < n → RwOk (l i)) : HdOk (ofI tok l n).1.hd := by
  unfold ofI
  cases decide (((ofRows tok (counted l n)).length : Int) = 0) with
  | true => exact hz_ok
  | false =>
    show HdOk (madeI tok (ofRows tok (counted l n))).hd
    rw [(made_f tok _).1, ← getL_rows (ofRows tok (counted l n))]
    refine lat_all (Pr := fun r => HdOk r.hd) hz_ok (fun i hi => ?_)
    obtain ⟨j, h1, h2⟩ := ofRows_get hi
    rw [h2]; exact (k j h1).h

set_option maxHeartbeats 4000000 in
theorem more_law (w : World) (p : Option Addr) (n c : Nat) (l : Nat → Rw) (hn : (n : Int) ≤ 9223372036854775807) (hl : Sl w p n 130 (fun i => encR (l i))) (hx : ∀ i, i < n → RwIn w (l i)) (kx : ∀ i, i < n → RwOk (l i)) (x : Rw) (hxx : RwIn w x) (kxx : RwOk x) : Calls Try.prog 14 #[.slice p n c, .agg (encR x).toArray] w (Ret (.bool true) w) := by
  refine fn_calls (n := 169) Try.func14 rfl rfl (lb rfl) ?_
  refine cseq ?_
  refine creg ?_
  refine lbxa rfl (fun b1 => ?_)
  refine l1 (asgb rfl) ?_
  refine lnil ?_
  refine nthen ?_
  refine cseq ?_
  refine cseq ?_
  refine creg ?_
  refine l1 (cl hb29 rfl mn (fun w hw => awake18_calls w)) ?_
  refine l1 (nt rfl) ?_
  refine l1 (mvb rfl) ?_
  refine l1g rfl (gwf rfl) (fun h => mvs rfl) ?_
  refine l1g rfl (gwf rfl) (fun h => cl hb48 rfl (mc (gvt h) (mc rfl mn)) (fun w hw => fewrows_calls w p n c l 25 hn (Sl.keptS hl hw) (fun i hi => (hx i hi).keptS hw) kx)) ?_
  refine l1g rfl (gwf rfl) (fun h => nt (gvt h)) ?_
  refine l1 (pk_or rfl rfl rfl) ?_
  refine l1 (mvb rfl) ?_
  refine l1g rfl (gwf rfl) (fun h => ldw 0 Try.isAgg79 Try.sizeOf79 rfl rfl rfl) ?_
  refine lbsg rfl (gwf rfl) (fun h => by first | rfl | (show [(0, ev _ _ (Operand.tmp 18))] = _; exact congrArg (fun v => [(0, v)]) (gvt h))) (bs74 x) (fun b2 E2 hE2 => ?_)
  refine l1g rfl (gwf rfl) (fun h => cl (v := .bool (fewR (fun _ => x) 1 1)) hb48 rfl (mc (gvt h) (mc rfl mn)) (fun w' hw => fewrows_calls w' (some ⟨b2, 0, none⟩) 1 1 (fun _ => x) 1 (by decide) (by rw [hE2 h] at hw; exact SlIn.sl (.inr ⟨⟨b2, encR x, 79⟩, by simp, rfl, fun i hi j v hv => by (obtain rfl : i = 0 := by omega); simpa using hv⟩) hw) (fun i hi => hxx.keptS hw) (fun i hi => kxx))) ?_
  refine l1g rfl (gwf rfl) (fun h => nt (gvt h)) ?_
  refine l1 (pk_or rfl rfl rfl) ?_
  refine l1 (mvb rfl) ?_
  refine l1g rfl (gwf rfl) (fun h => ldw 0 Try.isAgg79 Try.sizeOf79 rfl rfl rfl) ?_
  refine l1g rfl (gwf rfl) (fun h => cl hb49 rfl (mc (gvt h) mn) (fun w hw => rrowformed_calls x w (hxx.keptS hw) kxx)) ?_
  refine l1g rfl (gwf rfl) (fun h => nt (gvt h)) ?_
  refine l1 (pk_or rfl rfl rfl) ?_
  refine lnil ?_
  refine nthen ?_
  refine cif rfl (fun h1 => ?_) (fun h1 => ?_)
  · skip
    refine cseq ?_
    refine creg ?_
    refine l1 (cl hb29 rfl mn (fun w hw => awake18_calls w)) ?_
    refine l1 (asgb rfl) ?_
    refine lnil ?_
    refine nthen ?_
    refine cret ?_
    refine nthenR ?_
    exact fin1b rfl rfl (rfl)
  · have hF1 : fewR l n 25 = true := by (simp at h1; exact h1.1.1)
    have hF2 : fewR (fun _ => x) 1 1 = true := by (simp at h1; exact h1.1.2)
    have hF3 : rformedR x = true := by (simp at h1; exact h1.2)
    have hn25 := (fewR_row hF1 (by decide)).1
    have hfx : ∀ i, i < n → (l i).hd.tn ≤ 20 ∧ (l i).ch.gn ≤ 20 := fun i hi => fewRow_le ((fewR_row hF1 (by decide)).2 i hi)
    have hfxx : x.hd.tn ≤ 20 ∧ x.ch.gn ≤ 20 := fewRow_le ((fewR_row hF2 (by decide)).2 0 (by decide))
    refine cskip ?_
    refine nthen ?_
    refine cseq ?_
    refine cseq ?_
    refine creg ?_
    refine l1 (asgi rfl) ?_
    refine lnil ?_
    refine nthen ?_
    refine cblock ?_
    refine cloopI (σ := Nat) (fun s => [(0, .slice p n c), (3, .pointer (some ⟨b1, 0, none⟩)), (5, .int .i64 (s : Int))]) (fun s => [⟨b1, encR x, 79⟩]) (fun s => s ≤ n ∧ ∀ j, j < s → (decide ((l j).hd.writer = x.hd.writer) && decide ((l j).hd.seq = x.hd.seq)) = false) (fun s => n - s) 0 ⟨Nat.zero_le _, fun j hj => by omega⟩ ⟨rfl, rfl, rfl, trivial⟩ (List.Sublist.cons_cons _ (List.nil_sublist _)) ?_
    rintro i j hI
    show WC _ _ _ ([⟨b1, encR x, 79⟩]) _ _ (over j [(0, .slice p n c), (3, .pointer (some ⟨b1, 0, none⟩)), (5, .int .i64 (i : Int))])
    replace hI : i ≤ n ∧ ∀ j, j < i → (decide ((l j).hd.writer = x.hd.writer) && decide ((l j).hd.seq = x.hd.seq)) = false := hI
    refine cseq ?_
    refine cseq ?_
    refine creg ?_
    refine l1 (mvi rfl) ?_
    refine l1 (mvs rfl) ?_
    refine l1 (lens sl74 rfl rfl) ?_
    refine l1 (lss rfl rfl) ?_
    refine lnil ?_
    refine nthen ?_
    refine cif rfl (fun h2 => ?_) (fun h2 => ?_)
    · have hlt : i < n := by (have := dt h2; omega)
      obtain ⟨b, o, hp, hbl, hm⟩ := hl.at hlt
      refine cskip ?_
      refine nthen ?_
      refine cseq ?_
      refine cblock ?_
      refine cseq ?_
      refine cregq mo (by kernel_rfl) ?_
      refine q1 (mvs rfl) ?_
      refine q1 (mvi rfl) ?_
      refine q1 (isp sl74 hp rfl rfl (by omega) (by omega)) ?_
      refine q1 (fa fa79_0 rfl) ?_
      refine q1 (fa fa37_0 rfl) ?_
      refine q1 (ldm (v := .int .i64 (l i).hd.writer) Try.isAgg3 rfl (fun w' hw => ((hm i hlt).kept hw.below hbl).at (i := 0) rfl)) ?_
      refine q1 (fa fa79_0 rfl) ?_
      refine q1 (fa fa37_0 rfl) ?_
      refine q1 (ldc 0 Try.isAgg3 rfl rfl rfl) ?_
      refine q1 (eql rfl rfl) ?_
      refine q1 (mvb rfl) ?_
      refine q1g rfl (gwt rfl) (fun h => mvs rfl) ?_
      refine q1g rfl (gwt rfl) (fun h => mvi rfl) ?_
      refine q1g rfl (gwt rfl) (fun h => isp sl74 hp (gvt h) (gvt h) (by omega) (by omega)) ?_
      refine q1g rfl (gwt rfl) (fun h => fa fa79_0 (gvt h)) ?_
      refine q1g rfl (gwt rfl) (fun h => fa fa37_1 (gvt h)) ?_
      refine q1g rfl (gwt rfl) (fun h => ldm (v := .int .u64 (l i).hd.seq) Try.isAgg22 (gvt h) (fun w' hw => ((hm i hlt).kept hw.below hbl).at (i := 1) rfl)) ?_
      refine q1g rfl (gwt rfl) (fun h => fa fa79_0 rfl) ?_
      refine q1g rfl (gwt rfl) (fun h => fa fa37_1 (gvt h)) ?_
      refine q1g rfl (gwt rfl) (fun h => ldc 0 Try.isAgg22 rfl (gvt h) rfl) ?_
      refine q1g rfl (gwt rfl) (fun h => eql (gvt h) (gvt h)) ?_
      refine q1 (pk_and rfl rfl rfl) ?_
      refine qnil ?_
      refine nthen ?_
      refine cif rfl (fun h3 => ?_) (fun h3 => ?_)
      · skip
        refine cseq ?_
        refine creg ?_
        refine l1 (asgb rfl) ?_
        refine lnil ?_
        refine nthen ?_
        refine cret ?_
        refine nblkR ?_
        refine nthenR ?_
        refine nIR ?_
        refine nblkR ?_
        refine nthenR ?_
        exact fin1b rfl rfl (rfl)
      · skip
        refine cskip ?_
        refine nblkN ?_
        refine nthen ?_
        refine creg ?_
        refine l1 (mvi rfl) ?_
        first | refine l1 (addn rfl rfl (ri (by omega) (by omega))) ?_ | refine l1 (add rfl rfl) ?_
        refine l1 (asgi rfl) ?_
        refine lnil ?_
        exact nI (i + 1) ⟨by omega, fun j hj => (Nat.lt_succ_iff_lt_or_eq.1 hj).elim (fun h => hI.2 j h) (fun h => by subst h; exact h3)⟩ (by show n - (i + 1) < n - i; omega) ⟨rfl, rfl, rfl, trivial⟩ (List.Sublist.refl _)
    · have hkey : ∀ j, j < n → (decide ((l j).hd.writer = x.hd.writer) && decide ((l j).hd.seq = x.hd.seq)) = false := fun j hj => hI.2 j (by have := df h2; omega)
      refine cexit ?_
      refine nthenE ?_
      refine nIE ?_
      refine nblkE ?_
      refine nthen ?_
      refine cseq ?_
      refine creg ?_
      refine l1 (mvs rfl) ?_
      refine l1 (fa fa79_0 rfl) ?_
      refine l1 (fa fa37_6 rfl) ?_
      refine l1 (lda 0 Try.isAgg34 Try.sizeOf34 rfl rfl (encR_item _) rfl) ?_
      refine lclm hb50 rfl (mc rfl (mc rfl mn)) (fun w' hw => of_calls w' x.hd.item p n c l (by omega) (Sl.keptS hl hw) (fun i hi => (hx i hi).keptS hw) kx hfx) ?_
      rintro v62 Hn ⟨I, rfl, hI1, hIn⟩
      refine l1 (mv rfl) ?_
      refine l1 (ext (vs := [.agg (encI I).toArray, .bool (ofI x.hd.item l n).2]) rfl rfl) ?_
      refine l1 (ext (vs := [.agg (encI I).toArray, .bool (ofI x.hd.item l n).2]) rfl rfl) ?_
      refine lal (zs := encI iz) Try.zeroValue83 rfl (fun b2 => ?_)
      refine wl_perm (ins_perm 1 _ _) ?_
      refine lstw 1 rfl rfl rfl Try.sizeOf83 rfl rfl rfl ?_
      refine l1 (asgb rfl) ?_
      refine lnil ?_
      refine nthen ?_
      refine cseq ?_
      refine ccut (Y := Nat × It × List Ent) (fun y => ⟨b1, encR x, 79⟩ :: ⟨b2, encI I, 83⟩ :: ⟨y.1, encI y.2.1, 83⟩ :: (Hn ++ y.2.2)) (fun y => [(3, .pointer (some ⟨b1, 0, none⟩)), (6, .pointer (some ⟨b2, 0, none⟩)), (7, .bool (ofI x.hd.item l n).2), (8, .pointer (some ⟨y.1, 0, none⟩)), (9, .bool (ofI x.hd.item (lx l n x) (n + 1)).2)]) (fun y => coreI y.2.1 = coreI (ofI x.hd.item (lx l n x) (n + 1)).1 ∧ ItIn y.2.2 y.2.1) ?_ ?_
      · refine cregH (fun (_ : Unit) => ⟨b1, encR x, 79⟩ :: []) 16 mo rfl ?_
        refine hq1 1 rfl (by kernel_rfl) (by kernel_rfl) (by kernel_rfl) (fun c a w h => h) (.inr ⟨_, rfl⟩) (fun w hw => ⟨(), hw.sub (List.Sublist.cons_cons _ (List.nil_sublist _))⟩) (fun T => mvs rfl) ?_
        refine hq1 3 rfl (by kernel_rfl) (by kernel_rfl) (by kernel_rfl) (fun c a w h => h) (.inl ⟨_, rfl⟩) (fun w hw => ⟨(), hw.sub (List.Sublist.cons_cons _ (List.nil_sublist _))⟩) (fun T => ldw 0 Try.isAgg79 Try.sizeOf79 rfl rfl rfl) ?_
        refine hq1 6 rfl (by kernel_rfl) (by kernel_rfl) (by kernel_rfl) (fun c a w h => h) (.inl ⟨_, rfl⟩) (fun w hw => ⟨(), hw.sub (List.Sublist.cons_cons _ (List.nil_sublist _))⟩) (fun T => fa fa79_0 rfl) ?_
        refine hq1 7 rfl (by kernel_rfl) (by kernel_rfl) (by kernel_rfl) (fun c a w h => h) (.inl ⟨_, rfl⟩) (fun w hw => ⟨(), hw.sub (List.Sublist.cons_cons _ (List.nil_sublist _))⟩) (fun T => fa fa37_6 rfl) ?_
        refine hq1 8 rfl (by kernel_rfl) (by kernel_rfl) (by kernel_rfl) (fun c a w h => h) (.inl ⟨_, rfl⟩) (fun w hw => ⟨(), hw.sub (List.Sublist.cons_cons _ (List.nil_sublist _))⟩) (fun T => lda 0 Try.isAgg34 Try.sizeOf34 rfl rfl (encR_item _) rfl) ?_
        refine hem3 0 4 13 (by kernel_rfl) rfl rfl rfl ?_ ?_ ?_
        · skip
          refine lbs Try.underlying74 rfl (bs74z) (fun b3 => ?_)
          refine wl_perm (ins_perm 2 _ _) ?_
          refine hnil (fun w hw => ⟨(), hw.sub (List.Sublist.cons_cons _ (List.nil_sublist _))⟩) ?_
          refine hem3 2 4 13 (by kernel_rfl) rfl rfl rfl ?_ ?_ ?_
          · skip
            refine lappx [_, _] _ [_] (xs := []) (news := (rowsL l n).flatMap encR) el74 rfl rfl ⟨rfl, .inr ⟨_, 0, [], rfl, rfl, Nat.le_refl _, by decide, rfl, rfl⟩⟩ rfl (by rw [flatM_len encR_len, rowsL_len]) (fun h0 => by obtain ⟨b, o, hp, hbl, hm⟩ := hl.at h0; exact ⟨_, hp, fun w' hw => by rw [rowsL_flat]; exact mem_flat (by decide) (fun i => rfl) (fun i hi => (hm i hi).kept hw.below hbl)⟩) (fun u hu => by obtain ⟨r, _, hr⟩ := List.mem_flatMap.1 hu; exact encR_one r u hr) (by unfold maxLen; omega) (by omega) ?_
            intro g1 cap1 oe1 hown1
            rw [List.nil_append] at hown1
            obtain ⟨cur1, rfl⟩ := hown1.blk
            refine hnil (fun w hw => ⟨(), hw.sub (List.Sublist.cons_cons _ (List.nil_sublist _))⟩) ?_
            refine hem2 4 13 (by kernel_rfl) rfl rfl ?_ ?_
            · skip
              refine lbs Try.underlying74 rfl (bs74 x) (fun b4 => ?_)
              refine wl_perm (ins_perm 3 _ _) ?_
              refine hnil (fun w hw => ⟨(), hw.sub (List.Sublist.cons_cons _ (List.nil_sublist _))⟩) ?_
              refine hem2 5 13 (by kernel_rfl) rfl rfl ?_ ?_
              · skip
                refine lapp [_, _] _ [_] el74 rfl rfl hown1 rfl (news := encR x) rfl (fun w' hw => by have := hw.mem (i := 3) rfl 0; simpa using this) (encR_one _) (by decide) (by unfold maxLen; omega) (by omega) ?_
                intro g2 cap2 oe2 hown2
                obtain ⟨cur2, rfl⟩ := hown2.blk
                have hown3 : OwnL 79 130 (.slice (some ⟨g2, 0, none⟩) (n + 1) cap2) (n + 1) ((rowsL (lx l n x) (n + 1)).flatMap encR) [⟨g2, cur2, 79⟩] := by rw [rowsL_lx, List.flatMap_append]; simpa using hown2
                refine hnil (fun w hw => ⟨(), hw.sub (List.Sublist.cons_cons _ (List.nil_sublist _))⟩) ?_
                refine hem2 9 13 (by kernel_rfl) rfl rfl ?_ ?_
                · skip
                  refine lclm hb50 rfl (mc (show _ = Value.slice (some ⟨g2, 0, none⟩) (n + 1) cap2 by first | rfl | (simp only [Nat.zero_add]; rfl)) (mc rfl mn)) (fun w' hw => of_calls w' x.hd.item (some ⟨g2, 0, none⟩) (n + 1) cap2 (lx l n x) (by omega) (SlIn.sl ((hown3.slInL (fun a => rfl) (fun i hi => ⟨_, rowsL_get hi, rfl⟩)).mono (fun e he => by obtain rfl := List.mem_singleton.1 he; simp)) hw) (lx_all (fun i hi => (hx i hi).keptS hw) (hxx.keptS hw)) (lx_all kx kxx) (lx_all (Pr := fun r => r.hd.tn ≤ 20 ∧ r.ch.gn ≤ 20) hfx hfxx)) ?_
                  rintro v75 Hn2 ⟨I2, rfl, hI2, hIn2⟩
                  refine wl_tail 4 ?_
                  refine hnil (fun w hw => ⟨(), hw.sub (List.Sublist.cons_cons _ (List.nil_sublist _))⟩) ?_
                  refine hq1 10 rfl (by kernel_rfl) (by kernel_rfl) (by kernel_rfl) (fun c a w h => h) (.inr ⟨_, rfl⟩) (fun w hw => ⟨(), hw.sub (List.Sublist.cons_cons _ (List.nil_sublist _))⟩) (fun T => mv rfl) ?_
                  refine hq1 11 rfl (by kernel_rfl) (by kernel_rfl) (by kernel_rfl) (fun c a w h => h) (.inl ⟨_, rfl⟩) (fun w hw => ⟨(), hw.sub (List.Sublist.cons_cons _ (List.nil_sublist _))⟩) (fun T => ext (vs := [.agg (encI I2).toArray, .bool (ofI x.hd.item (lx l n x) (n + 1)).2]) rfl rfl) ?_
                  refine hq1 12 rfl (by kernel_rfl) (by kernel_rfl) (by kernel_rfl) (fun c a w h => h) (.inl ⟨_, rfl⟩) (fun w hw => ⟨(), hw.sub (List.Sublist.cons_cons _ (List.nil_sublist _))⟩) (fun T => ext (vs := [.agg (encI I2).toArray, .bool (ofI x.hd.item (lx l n x) (n + 1)).2]) rfl rfl) ?_
                  refine he 13 (by kernel_rfl) rfl ?_
                  refine lal (zs := encI iz) Try.zeroValue83 rfl (fun b5 => ?_)
                  refine wl_perm (ins_perm 4 _ _) ?_
                  refine hnil (fun w hw => ⟨(), hw.sub (List.Sublist.cons_cons _ (List.nil_sublist _))⟩) ?_
                  refine he 14 (by kernel_rfl) rfl ?_
                  refine lstw 4 rfl rfl rfl Try.sizeOf83 rfl rfl rfl ?_
                  refine hnil (fun w hw => ⟨(), hw.sub (List.Sublist.cons_cons _ (List.nil_sublist _))⟩) ?_
                  refine hq1 15 rfl (by kernel_rfl) (by kernel_rfl) (by kernel_rfl) (fun c a w h => h) (.inr ⟨_, rfl⟩) (fun w hw => ⟨(), hw.sub (List.Sublist.cons_cons _ (List.nil_sublist _))⟩) (fun T => asgb rfl) ?_
                  refine hend (by kernel_rfl) ?_
                  exact nCut (b5, I2, Hn2) ⟨hI2, hIn2⟩ ⟨rfl, rfl, rfl, rfl, rfl, trivial⟩ ⟨_, List.Perm.refl _, List.Sublist.cons_cons _ (List.Sublist.cons_cons _ (List.Sublist.cons _ (List.Sublist.cons _ (List.Sublist.cons_cons _ (List.Sublist.refl _)))))⟩
                · skip
                  refine lal (zs := encI iz) Try.zeroValue83 rfl (fun b6 => ?_)
                  refine wl_perm (ins_perm 4 _ _) ?_
                  refine hnil (fun w hw => ⟨(), hw.sub (List.Sublist.cons_cons _ (List.nil_sublist _))⟩) ?_
                  refine he 9 (by kernel_rfl) rfl ?_
                  refine lclm hb50 rfl (mc (show _ = Value.slice (some ⟨g2, 0, none⟩) (n + 1) cap2 by first | rfl | (simp only [Nat.zero_add]; rfl)) (mc rfl mn)) (fun w' hw => of_calls w' x.hd.item (some ⟨g2, 0, none⟩) (n + 1) cap2 (lx l n x) (by omega) (SlIn.sl ((hown3.slInL (fun a => rfl) (fun i hi => ⟨_, rowsL_get hi, rfl⟩)).mono (fun e he => by obtain rfl := List.mem_singleton.1 he; simp)) hw) (lx_all (fun i hi => (hx i hi).keptS hw) (hxx.keptS hw)) (lx_all kx kxx) (lx_all (Pr := fun r => r.hd.tn ≤ 20 ∧ r.ch.gn ≤ 20) hfx hfxx)) ?_
                  rintro v75 Hn2 ⟨I2, rfl, hI2, hIn2⟩
                  refine wl_tail 5 ?_
                  refine hnil (fun w hw => ⟨(), hw.sub (List.Sublist.cons_cons _ (List.nil_sublist _))⟩) ?_
                  refine hq1 10 rfl (by kernel_rfl) (by kernel_rfl) (by kernel_rfl) (fun c a w h => h) (.inr ⟨_, rfl⟩) (fun w hw => ⟨(), hw.sub (List.Sublist.cons_cons _ (List.nil_sublist _))⟩) (fun T => mv rfl) ?_
                  refine hq1 11 rfl (by kernel_rfl) (by kernel_rfl) (by kernel_rfl) (fun c a w h => h) (.inl ⟨_, rfl⟩) (fun w hw => ⟨(), hw.sub (List.Sublist.cons_cons _ (List.nil_sublist _))⟩) (fun T => ext (vs := [.agg (encI I2).toArray, .bool (ofI x.hd.item (lx l n x) (n + 1)).2]) rfl rfl) ?_
                  refine hq1 12 rfl (by kernel_rfl) (by kernel_rfl) (by kernel_rfl) (fun c a w h => h) (.inl ⟨_, rfl⟩) (fun w hw => ⟨(), hw.sub (List.Sublist.cons_cons _ (List.nil_sublist _))⟩) (fun T => ext (vs := [.agg (encI I2).toArray, .bool (ofI x.hd.item (lx l n x) (n + 1)).2]) rfl rfl) ?_
                  refine he 14 (by kernel_rfl) rfl ?_
                  refine lstw 4 rfl rfl rfl Try.sizeOf83 rfl rfl rfl ?_
                  refine hnil (fun w hw => ⟨(), hw.sub (List.Sublist.cons_cons _ (List.nil_sublist _))⟩) ?_
                  refine hq1 15 rfl (by kernel_rfl) (by kernel_rfl) (by kernel_rfl) (fun c a w h => h) (.inr ⟨_, rfl⟩) (fun w hw => ⟨(), hw.sub (List.Sublist.cons_cons _ (List.nil_sublist _))⟩) (fun T => asgb rfl) ?_
                  refine hend (by kernel_rfl) ?_
                  exact nCut (b6, I2, Hn2) ⟨hI2, hIn2⟩ ⟨rfl, rfl, rfl, rfl, rfl, trivial⟩ ⟨_, List.Perm.refl _, List.Sublist.cons_cons _ (List.Sublist.cons_cons _ (List.Sublist.cons _ (List.Sublist.cons _ (List.Sublist.cons_cons _ (List.Sublist.refl _)))))⟩
              · skip
                refine lal (zs := encI iz) Try.zeroValue83 rfl (fun b7 => ?_)
                refine wl_perm (ins_perm 4 _ _) ?_
                refine hnil (fun w hw => ⟨(), hw.sub (List.Sublist.cons_cons _ (List.nil_sublist _))⟩) ?_
                refine he 5 (by kernel_rfl) rfl ?_
                refine lapp [_, _] _ [_] el74 rfl rfl hown1 rfl (news := encR x) rfl (fun w' hw => by have := hw.mem (i := 3) rfl 0; simpa using this) (encR_one _) (by decide) (by unfold maxLen; omega) (by omega) ?_
                intro g2 cap2 oe2 hown2
                obtain ⟨cur2, rfl⟩ := hown2.blk
                have hown3 : OwnL 79 130 (.slice (some ⟨g2, 0, none⟩) (n + 1) cap2) (n + 1) ((rowsL (lx l n x) (n + 1)).flatMap encR) [⟨g2, cur2, 79⟩] := by rw [rowsL_lx, List.flatMap_append]; simpa using hown2
                refine hnil (fun w hw => ⟨(), hw.sub (List.Sublist.cons_cons _ (List.nil_sublist _))⟩) ?_
                refine he 9 (by kernel_rfl) rfl ?_
                refine lclm hb50 rfl (mc (show _ = Value.slice (some ⟨g2, 0, none⟩) (n + 1) cap2 by first | rfl | (simp only [Nat.zero_add]; rfl)) (mc rfl mn)) (fun w' hw => of_calls w' x.hd.item (some ⟨g2, 0, none⟩) (n + 1) cap2 (lx l n x) (by omega) (SlIn.sl ((hown3.slInL (fun a => rfl) (fun i hi => ⟨_, rowsL_get hi, rfl⟩)).mono (fun e he => by obtain rfl := List.mem_singleton.1 he; simp)) hw) (lx_all (fun i hi => (hx i hi).keptS hw) (hxx.keptS hw)) (lx_all kx kxx) (lx_all (Pr := fun r => r.hd.tn ≤ 20 ∧ r.ch.gn ≤ 20) hfx hfxx)) ?_
                rintro v75 Hn2 ⟨I2, rfl, hI2, hIn2⟩
                refine wl_tail 5 ?_
                refine hnil (fun w hw => ⟨(), hw.sub (List.Sublist.cons_cons _ (List.nil_sublist _))⟩) ?_
                refine hq1 10 rfl (by kernel_rfl) (by kernel_rfl) (by kernel_rfl) (fun c a w h => h) (.inr ⟨_, rfl⟩) (fun w hw => ⟨(), hw.sub (List.Sublist.cons_cons _ (List.nil_sublist _))⟩) (fun T => mv rfl) ?_
                refine hq1 11 rfl (by kernel_rfl) (by kernel_rfl) (by kernel_rfl) (fun c a w h => h) (.inl ⟨_, rfl⟩) (fun w hw => ⟨(), hw.sub (List.Sublist.cons_cons _ (List.nil_sublist _))⟩) (fun T => ext (vs := [.agg (encI I2).toArray, .bool (ofI x.hd.item (lx l n x) (n + 1)).2]) rfl rfl) ?_
                refine hq1 12 rfl (by kernel_rfl) (by kernel_rfl) (by kernel_rfl) (fun c a w h => h) (.inl ⟨_, rfl⟩) (fun w hw => ⟨(), hw.sub (List.Sublist.cons_cons _ (List.nil_sublist _))⟩) (fun T => ext (vs := [.agg (encI I2).toArray, .bool (ofI x.hd.item (lx l n x) (n + 1)).2]) rfl rfl) ?_
                refine he 14 (by kernel_rfl) rfl ?_
                refine lstw 4 rfl rfl rfl Try.sizeOf83 rfl rfl rfl ?_
                refine hnil (fun w hw => ⟨(), hw.sub (List.Sublist.cons_cons _ (List.nil_sublist _))⟩) ?_
                refine hq1 15 rfl (by kernel_rfl) (by kernel_rfl) (by kernel_rfl) (fun c a w h => h) (.inr ⟨_, rfl⟩) (fun w hw => ⟨(), hw.sub (List.Sublist.cons_cons _ (List.nil_sublist _))⟩) (fun T => asgb rfl) ?_
                refine hend (by kernel_rfl) ?_
                exact nCut (b7, I2, Hn2) ⟨hI2, hIn2⟩ ⟨rfl, rfl, rfl, rfl, rfl, trivial⟩ ⟨_, List.Perm.refl _, List.Sublist.cons_cons _ (List.Sublist.cons_cons _ (List.Sublist.cons _ (List.Sublist.cons _ (List.Sublist.cons_cons _ (List.Sublist.refl _)))))⟩
            · skip
              refine lal (zs := encI iz) Try.zeroValue83 rfl (fun b8 => ?_)
              refine wl_perm (ins_perm 3 _ _) ?_
              refine hnil (fun w hw => ⟨(), hw.sub (List.Sublist.cons_cons _ (List.nil_sublist _))⟩) ?_
              refine he 4 (by kernel_rfl) rfl ?_
              refine lbs Try.underlying74 rfl (bs74 x) (fun b9 => ?_)
              refine wl_perm (ins_perm 4 _ _) ?_
              refine hnil (fun w hw => ⟨(), hw.sub (List.Sublist.cons_cons _ (List.nil_sublist _))⟩) ?_
              refine he 5 (by kernel_rfl) rfl ?_
              refine lapp [_, _] _ [_] el74 rfl rfl hown1 rfl (news := encR x) rfl (fun w' hw => by have := hw.mem (i := 4) rfl 0; simpa using this) (encR_one _) (by decide) (by unfold maxLen; omega) (by omega) ?_
              intro g2 cap2 oe2 hown2
              obtain ⟨cur2, rfl⟩ := hown2.blk
              have hown3 : OwnL 79 130 (.slice (some ⟨g2, 0, none⟩) (n + 1) cap2) (n + 1) ((rowsL (lx l n x) (n + 1)).flatMap encR) [⟨g2, cur2, 79⟩] := by rw [rowsL_lx, List.flatMap_append]; simpa using hown2
              refine hnil (fun w hw => ⟨(), hw.sub (List.Sublist.cons_cons _ (List.nil_sublist _))⟩) ?_
              refine he 9 (by kernel_rfl) rfl ?_
              refine lclm hb50 rfl (mc (show _ = Value.slice (some ⟨g2, 0, none⟩) (n + 1) cap2 by first | rfl | (simp only [Nat.zero_add]; rfl)) (mc rfl mn)) (fun w' hw => of_calls w' x.hd.item (some ⟨g2, 0, none⟩) (n + 1) cap2 (lx l n x) (by omega) (SlIn.sl ((hown3.slInL (fun a => rfl) (fun i hi => ⟨_, rowsL_get hi, rfl⟩)).mono (fun e he => by obtain rfl := List.mem_singleton.1 he; simp)) hw) (lx_all (fun i hi => (hx i hi).keptS hw) (hxx.keptS hw)) (lx_all kx kxx) (lx_all (Pr := fun r => r.hd.tn ≤ 20 ∧ r.ch.gn ≤ 20) hfx hfxx)) ?_
              rintro v75 Hn2 ⟨I2, rfl, hI2, hIn2⟩
              refine wl_tail 5 ?_
              refine hnil (fun w hw => ⟨(), hw.sub (List.Sublist.cons_cons _ (List.nil_sublist _))⟩) ?_
              refine hq1 10 rfl (by kernel_rfl) (by kernel_rfl) (by kernel_rfl) (fun c a w h => h) (.inr ⟨_, rfl⟩) (fun w hw => ⟨(), hw.sub (List.Sublist.cons_cons _ (List.nil_sublist _))⟩) (fun T => mv rfl) ?_
              refine hq1 11 rfl (by kernel_rfl) (by kernel_rfl) (by kernel_rfl) (fun c a w h => h) (.inl ⟨_, rfl⟩) (fun w hw => ⟨(), hw.sub (List.Sublist.cons_cons _ (List.nil_sublist _))⟩) (fun T => ext (vs := [.agg (encI I2).toArray, .bool (ofI x.hd.item (lx l n x) (n + 1)).2]) rfl rfl) ?_
              refine hq1 12 rfl (by kernel_rfl) (by kernel_rfl) (by kernel_rfl) (fun c a w h => h) (.inl ⟨_, rfl⟩) (fun w hw => ⟨(), hw.sub (List.Sublist.cons_cons _ (List.nil_sublist _))⟩) (fun T => ext (vs := [.agg (encI I2).toArray, .bool (ofI x.hd.item (lx l n x) (n + 1)).2]) rfl rfl) ?_
              refine he 14 (by kernel_rfl) rfl ?_
              refine lstw 3 rfl rfl rfl Try.sizeOf83 rfl rfl rfl ?_
              refine hnil (fun w hw => ⟨(), hw.sub (List.Sublist.cons_cons _ (List.nil_sublist _))⟩) ?_
              refine hq1 15 rfl (by kernel_rfl) (by kernel_rfl) (by kernel_rfl) (fun c a w h => h) (.inr ⟨_, rfl⟩) (fun w hw => ⟨(), hw.sub (List.Sublist.cons_cons _ (List.nil_sublist _))⟩) (fun T => asgb rfl) ?_
              refine hend (by kernel_rfl) ?_
              exact nCut (b8, I2, Hn2) ⟨hI2, hIn2⟩ ⟨rfl, rfl, rfl, rfl, rfl, trivial⟩ ⟨_, List.Perm.refl _, List.Sublist.cons_cons _ (List.Sublist.cons_cons _ (List.Sublist.cons _ (List.Sublist.cons_cons _ (List.Sublist.cons _ (List.Sublist.refl _)))))⟩
          · skip
            refine lbs Try.underlying74 rfl (bs74 x) (fun b10 => ?_)
            refine wl_perm (ins_perm 3 _ _) ?_
            refine hnil (fun w hw => ⟨(), hw.sub (List.Sublist.cons_cons _ (List.nil_sublist _))⟩) ?_
            refine hem2 2 13 (by kernel_rfl) rfl rfl ?_ ?_
            · skip
              refine lappx [_, _] _ [_] (xs := []) (news := (rowsL l n).flatMap encR) el74 rfl rfl ⟨rfl, .inr ⟨_, 0, [], rfl, rfl, Nat.le_refl _, by decide, rfl, rfl⟩⟩ rfl (by rw [flatM_len encR_len, rowsL_len]) (fun h0 => by obtain ⟨b, o, hp, hbl, hm⟩ := hl.at h0; exact ⟨_, hp, fun w' hw => by rw [rowsL_flat]; exact mem_flat (by decide) (fun i => rfl) (fun i hi => (hm i hi).kept hw.below hbl)⟩) (fun u hu => by obtain ⟨r, _, hr⟩ := List.mem_flatMap.1 hu; exact encR_one r u hr) (by unfold maxLen; omega) (by omega) ?_
              intro g1 cap1 oe1 hown1
              rw [List.nil_append] at hown1
              obtain ⟨cur1, rfl⟩ := hown1.blk
              refine hnil (fun w hw => ⟨(), hw.sub (List.Sublist.cons_cons _ (List.nil_sublist _))⟩) ?_
              refine hem2 5 13 (by kernel_rfl) rfl rfl ?_ ?_
              · skip
                refine lapp [_, _] _ [_] el74 rfl rfl hown1 rfl (news := encR x) rfl (fun w' hw => by have := hw.mem (i := 3) rfl 0; simpa using this) (encR_one _) (by decide) (by unfold maxLen; omega) (by omega) ?_
                intro g2 cap2 oe2 hown2
                obtain ⟨cur2, rfl⟩ := hown2.blk
                have hown3 : OwnL 79 130 (.slice (some ⟨g2, 0, none⟩) (n + 1) cap2) (n + 1) ((rowsL (lx l n x) (n + 1)).flatMap encR) [⟨g2, cur2, 79⟩] := by rw [rowsL_lx, List.flatMap_append]; simpa using hown2
                refine hnil (fun w hw => ⟨(), hw.sub (List.Sublist.cons_cons _ (List.nil_sublist _))⟩) ?_
                refine hem2 9 13 (by kernel_rfl) rfl rfl ?_ ?_
                · skip
                  refine lclm hb50 rfl (mc (show _ = Value.slice (some ⟨g2, 0, none⟩) (n + 1) cap2 by first | rfl | (simp only [Nat.zero_add]; rfl)) (mc rfl mn)) (fun w' hw => of_calls w' x.hd.item (some ⟨g2, 0, none⟩) (n + 1) cap2 (lx l n x) (by omega) (SlIn.sl ((hown3.slInL (fun a => rfl) (fun i hi => ⟨_, rowsL_get hi, rfl⟩)).mono (fun e he => by obtain rfl := List.mem_singleton.1 he; simp)) hw) (lx_all (fun i hi => (hx i hi).keptS hw) (hxx.keptS hw)) (lx_all kx kxx) (lx_all (Pr := fun r => r.hd.tn ≤ 20 ∧ r.ch.gn ≤ 20) hfx hfxx)) ?_
                  rintro v75 Hn2 ⟨I2, rfl, hI2, hIn2⟩
                  refine wl_tail 4 ?_
                  refine hnil (fun w hw => ⟨(), hw.sub (List.Sublist.cons_cons _ (List.nil_sublist _))⟩) ?_
                  refine hq1 10 rfl (by kernel_rfl) (by kernel_rfl) (by kernel_rfl) (fun c a w h => h) (.inr ⟨_, rfl⟩) (fun w hw => ⟨(), hw.sub (List.Sublist.cons_cons _ (List.nil_sublist _))⟩) (fun T => mv rfl) ?_
                  refine hq1 11 rfl (by kernel_rfl) (by kernel_rfl) (by kernel_rfl) (fun c a w h => h) (.inl ⟨_, rfl⟩) (fun w hw => ⟨(), hw.sub (List.Sublist.cons_cons _ (List.nil_sublist _))⟩) (fun T => ext (vs := [.agg (encI I2).toArray, .bool (ofI x.hd.item (lx l n x) (n + 1)).2]) rfl rfl) ?_
                  refine hq1 12 rfl (by kernel_rfl) (by kernel_rfl) (by kernel_rfl) (fun c a w h => h) (.inl ⟨_, rfl⟩) (fun w hw => ⟨(), hw.sub (List.Sublist.cons_cons _ (List.nil_sublist _))⟩) (fun T => ext (vs := [.agg (encI I2).toArray, .bool (ofI x.hd.item (lx l n x) (n + 1)).2]) rfl rfl) ?_
                  refine he 13 (by kernel_rfl) rfl ?_
                  refine lal (zs := encI iz) Try.zeroValue83 rfl (fun b11 => ?_)
                  refine wl_perm (ins_perm 4 _ _) ?_
                  refine hnil (fun w hw => ⟨(), hw.sub (List.Sublist.cons_cons _ (List.nil_sublist _))⟩) ?_
                  refine he 14 (by kernel_rfl) rfl ?_
                  refine lstw 4 rfl rfl rfl Try.sizeOf83 rfl rfl rfl ?_
                  refine hnil (fun w hw => ⟨(), hw.sub (List.Sublist.cons_cons _ (List.nil_sublist _))⟩) ?_
                  refine hq1 15 rfl (by kernel_rfl) (by kernel_rfl) (by kernel_rfl) (fun c a w h => h) (.inr ⟨_, rfl⟩) (fun w hw => ⟨(), hw.sub (List.Sublist.cons_cons _ (List.nil_sublist _))⟩) (fun T => asgb rfl) ?_
                  refine hend (by kernel_rfl) ?_
                  exact nCut (b11, I2, Hn2) ⟨hI2, hIn2⟩ ⟨rfl, rfl, rfl, rfl, rfl, trivial⟩ ⟨_, List.Perm.refl _, List.Sublist.cons_cons _ (List.Sublist.cons_cons _ (List.Sublist.cons _ (List.Sublist.cons _ (List.Sublist.cons_cons _ (List.Sublist.refl _)))))⟩
                · skip
                  refine lal (zs := encI iz) Try.zeroValue83 rfl (fun b12 => ?_)
                  refine wl_perm (ins_perm 4 _ _) ?_
                  refine hnil (fun w hw => ⟨(), hw.sub (List.Sublist.cons_cons _ (List.nil_sublist _))⟩) ?_
                  refine he 9 (by kernel_rfl) rfl ?_
                  refine lclm hb50 rfl (mc (show _ = Value.slice (some ⟨g2, 0, none⟩) (n + 1) cap2 by first | rfl | (simp only [Nat.zero_add]; rfl)) (mc rfl mn)) (fun w' hw => of_calls w' x.hd.item (some ⟨g2, 0, none⟩) (n + 1) cap2 (lx l n x) (by omega) (SlIn.sl ((hown3.slInL (fun a => rfl) (fun i hi => ⟨_, rowsL_get hi, rfl⟩)).mono (fun e he => by obtain rfl := List.mem_singleton.1 he; simp)) hw) (lx_all (fun i hi => (hx i hi).keptS hw) (hxx.keptS hw)) (lx_all kx kxx) (lx_all (Pr := fun r => r.hd.tn ≤ 20 ∧ r.ch.gn ≤ 20) hfx hfxx)) ?_
                  rintro v75 Hn2 ⟨I2, rfl, hI2, hIn2⟩
                  refine wl_tail 5 ?_
                  refine hnil (fun w hw => ⟨(), hw.sub (List.Sublist.cons_cons _ (List.nil_sublist _))⟩) ?_
                  refine hq1 10 rfl (by kernel_rfl) (by kernel_rfl) (by kernel_rfl) (fun c a w h => h) (.inr ⟨_, rfl⟩) (fun w hw => ⟨(), hw.sub (List.Sublist.cons_cons _ (List.nil_sublist _))⟩) (fun T => mv rfl) ?_
                  refine hq1 11 rfl (by kernel_rfl) (by kernel_rfl) (by kernel_rfl) (fun c a w h => h) (.inl ⟨_, rfl⟩) (fun w hw => ⟨(), hw.sub (List.Sublist.cons_cons _ (List.nil_sublist _))⟩) (fun T => ext (vs := [.agg (encI I2).toArray, .bool (ofI x.hd.item (lx l n x) (n + 1)).2]) rfl rfl) ?_
                  refine hq1 12 rfl (by kernel_rfl) (by kernel_rfl) (by kernel_rfl) (fun c a w h => h) (.inl ⟨_, rfl⟩) (fun w hw => ⟨(), hw.sub (List.Sublist.cons_cons _ (List.nil_sublist _))⟩) (fun T => ext (vs := [.agg (encI I2).toArray, .bool (ofI x.hd.item (lx l n x) (n + 1)).2]) rfl rfl) ?_
                  refine he 14 (by kernel_rfl) rfl ?_
                  refine lstw 4 rfl rfl rfl Try.sizeOf83 rfl rfl rfl ?_
                  refine hnil (fun w hw => ⟨(), hw.sub (List.Sublist.cons_cons _ (List.nil_sublist _))⟩) ?_
                  refine hq1 15 rfl (by kernel_rfl) (by kernel_rfl) (by kernel_rfl) (fun c a w h => h) (.inr ⟨_, rfl⟩) (fun w hw => ⟨(), hw.sub (List.Sublist.cons_cons _ (List.nil_sublist _))⟩) (fun T => asgb rfl) ?_
                  refine hend (by kernel_rfl) ?_
                  exact nCut (b12, I2, Hn2) ⟨hI2, hIn2⟩ ⟨rfl, rfl, rfl, rfl, rfl, trivial⟩ ⟨_, List.Perm.refl _, List.Sublist.cons_cons _ (List.Sublist.cons_cons _ (List.Sublist.cons _ (List.Sublist.cons _ (List.Sublist.cons_cons _ (List.Sublist.refl _)))))⟩
              · skip
                refine lal (zs := encI iz) Try.zeroValue83 rfl (fun b13 => ?_)
                refine wl_perm (ins_perm 4 _ _) ?_
                refine hnil (fun w hw => ⟨(), hw.sub (List.Sublist.cons_cons _ (List.nil_sublist _))⟩) ?_
                refine he 5 (by kernel_rfl) rfl ?_
                refine lapp [_, _] _ [_] el74 rfl rfl hown1 rfl (news := encR x) rfl (fun w' hw => by have := hw.mem (i := 3) rfl 0; simpa using this) (encR_one _) (by decide) (by unfold maxLen; omega) (by omega) ?_
                intro g2 cap2 oe2 hown2
                obtain ⟨cur2, rfl⟩ := hown2.blk
                have hown3 : OwnL 79 130 (.slice (some ⟨g2, 0, none⟩) (n + 1) cap2) (n + 1) ((rowsL (lx l n x) (n + 1)).flatMap encR) [⟨g2, cur2, 79⟩] := by rw [rowsL_lx, List.flatMap_append]; simpa using hown2
                refine hnil (fun w hw => ⟨(), hw.sub (List.Sublist.cons_cons _ (List.nil_sublist _))⟩) ?_
                refine he 9 (by kernel_rfl) rfl ?_
                refine lclm hb50 rfl (mc (show _ = Value.slice (some ⟨g2, 0, none⟩) (n + 1) cap2 by first | rfl | (simp only [Nat.zero_add]; rfl)) (mc rfl mn)) (fun w' hw => of_calls w' x.hd.item (some ⟨g2, 0, none⟩) (n + 1) cap2 (lx l n x) (by omega) (SlIn.sl ((hown3.slInL (fun a => rfl) (fun i hi => ⟨_, rowsL_get hi, rfl⟩)).mono (fun e he => by obtain rfl := List.mem_singleton.1 he; simp)) hw) (lx_all (fun i hi => (hx i hi).keptS hw) (hxx.keptS hw)) (lx_all kx kxx) (lx_all (Pr := fun r => r.hd.tn ≤ 20 ∧ r.ch.gn ≤ 20) hfx hfxx)) ?_
                rintro v75 Hn2 ⟨I2, rfl, hI2, hIn2⟩
                refine wl_tail 5 ?_
                refine hnil (fun w hw => ⟨(), hw.sub (List.Sublist.cons_cons _ (List.nil_sublist _))⟩) ?_
                refine hq1 10 rfl (by kernel_rfl) (by kernel_rfl) (by kernel_rfl) (fun c a w h => h) (.inr ⟨_, rfl⟩) (fun w hw => ⟨(), hw.sub (List.Sublist.cons_cons _ (List.nil_sublist _))⟩) (fun T => mv rfl) ?_
                refine hq1 11 rfl (by kernel_rfl) (by kernel_rfl) (by kernel_rfl) (fun c a w h => h) (.inl ⟨_, rfl⟩) (fun w hw => ⟨(), hw.sub (List.Sublist.cons_cons _ (List.nil_sublist _))⟩) (fun T => ext (vs := [.agg (encI I2).toArray, .bool (ofI x.hd.item (lx l n x) (n + 1)).2]) rfl rfl) ?_
                refine hq1 12 rfl (by kernel_rfl) (by kernel_rfl) (by kernel_rfl) (fun c a w h => h) (.inl ⟨_, rfl⟩) (fun w hw => ⟨(), hw.sub (List.Sublist.cons_cons _ (List.nil_sublist _))⟩) (fun T => ext (vs := [.agg (encI I2).toArray, .bool (ofI x.hd.item (lx l n x) (n + 1)).2]) rfl rfl) ?_
                refine he 14 (by kernel_rfl) rfl ?_
                refine lstw 4 rfl rfl rfl Try.sizeOf83 rfl rfl rfl ?_
                refine hnil (fun w hw => ⟨(), hw.sub (List.Sublist.cons_cons _ (List.nil_sublist _))⟩) ?_
                refine hq1 15 rfl (by kernel_rfl) (by kernel_rfl) (by kernel_rfl) (fun c a w h => h) (.inr ⟨_, rfl⟩) (fun w hw => ⟨(), hw.sub (List.Sublist.cons_cons _ (List.nil_sublist _))⟩) (fun T => asgb rfl) ?_
                refine hend (by kernel_rfl) ?_
                exact nCut (b13, I2, Hn2) ⟨hI2, hIn2⟩ ⟨rfl, rfl, rfl, rfl, rfl, trivial⟩ ⟨_, List.Perm.refl _, List.Sublist.cons_cons _ (List.Sublist.cons_cons _ (List.Sublist.cons _ (List.Sublist.cons _ (List.Sublist.cons_cons _ (List.Sublist.refl _)))))⟩
            · skip
              refine lal (zs := encI iz) Try.zeroValue83 rfl (fun b14 => ?_)
              refine wl_perm (ins_perm 4 _ _) ?_
              refine hnil (fun w hw => ⟨(), hw.sub (List.Sublist.cons_cons _ (List.nil_sublist _))⟩) ?_
              refine he 2 (by kernel_rfl) rfl ?_
              refine lappx [_, _] _ [_] (xs := []) (news := (rowsL l n).flatMap encR) el74 rfl rfl ⟨rfl, .inr ⟨_, 0, [], rfl, rfl, Nat.le_refl _, by decide, rfl, rfl⟩⟩ rfl (by rw [flatM_len encR_len, rowsL_len]) (fun h0 => by obtain ⟨b, o, hp, hbl, hm⟩ := hl.at h0; exact ⟨_, hp, fun w' hw => by rw [rowsL_flat]; exact mem_flat (by decide) (fun i => rfl) (fun i hi => (hm i hi).kept hw.below hbl)⟩) (fun u hu => by obtain ⟨r, _, hr⟩ := List.mem_flatMap.1 hu; exact encR_one r u hr) (by unfold maxLen; omega) (by omega) ?_
              intro g1 cap1 oe1 hown1
              rw [List.nil_append] at hown1
              obtain ⟨cur1, rfl⟩ := hown1.blk
              refine hnil (fun w hw => ⟨(), hw.sub (List.Sublist.cons_cons _ (List.nil_sublist _))⟩) ?_
              refine he 5 (by kernel_rfl) rfl ?_
              refine lapp [_, _] _ [_] el74 rfl rfl hown1 rfl (news := encR x) rfl (fun w' hw => by have := hw.mem (i := 3) rfl 0; simpa using this) (encR_one _) (by decide) (by unfold maxLen; omega) (by omega) ?_
              intro g2 cap2 oe2 hown2
              obtain ⟨cur2, rfl⟩ := hown2.blk
              have hown3 : OwnL 79 130 (.slice (some ⟨g2, 0, none⟩) (n + 1) cap2) (n + 1) ((rowsL (lx l n x) (n + 1)).flatMap encR) [⟨g2, cur2, 79⟩] := by rw [rowsL_lx, List.flatMap_append]; simpa using hown2
              refine hnil (fun w hw => ⟨(), hw.sub (List.Sublist.cons_cons _ (List.nil_sublist _))⟩) ?_
              refine he 9 (by kernel_rfl) rfl ?_
              refine lclm hb50 rfl (mc (show _ = Value.slice (some ⟨g2, 0, none⟩) (n + 1) cap2 by first | rfl | (simp only [Nat.zero_add]; rfl)) (mc rfl mn)) (fun w' hw => of_calls w' x.hd.item (some ⟨g2, 0, none⟩) (n + 1) cap2 (lx l n x) (by omega) (SlIn.sl ((hown3.slInL (fun a => rfl) (fun i hi => ⟨_, rowsL_get hi, rfl⟩)).mono (fun e he => by obtain rfl := List.mem_singleton.1 he; simp)) hw) (lx_all (fun i hi => (hx i hi).keptS hw) (hxx.keptS hw)) (lx_all kx kxx) (lx_all (Pr := fun r => r.hd.tn ≤ 20 ∧ r.ch.gn ≤ 20) hfx hfxx)) ?_
              rintro v75 Hn2 ⟨I2, rfl, hI2, hIn2⟩
              refine wl_tail 5 ?_
              refine hnil (fun w hw => ⟨(), hw.sub (List.Sublist.cons_cons _ (List.nil_sublist _))⟩) ?_
              refine hq1 10 rfl (by kernel_rfl) (by kernel_rfl) (by kernel_rfl) (fun c a w h => h) (.inr ⟨_, rfl⟩) (fun w hw => ⟨(), hw.sub (List.Sublist.cons_cons _ (List.nil_sublist _))⟩) (fun T => mv rfl) ?_
              refine hq1 11 rfl (by kernel_rfl) (by kernel_rfl) (by kernel_rfl) (fun c a w h => h) (.inl ⟨_, rfl⟩) (fun w hw => ⟨(), hw.sub (List.Sublist.cons_cons _ (List.nil_sublist _))⟩) (fun T => ext (vs := [.agg (encI I2).toArray, .bool (ofI x.hd.item (lx l n x) (n + 1)).2]) rfl rfl) ?_
              refine hq1 12 rfl (by kernel_rfl) (by kernel_rfl) (by kernel_rfl) (fun c a w h => h) (.inl ⟨_, rfl⟩) (fun w hw => ⟨(), hw.sub (List.Sublist.cons_cons _ (List.nil_sublist _))⟩) (fun T => ext (vs := [.agg (encI I2).toArray, .bool (ofI x.hd.item (lx l n x) (n + 1)).2]) rfl rfl) ?_
              refine he 14 (by kernel_rfl) rfl ?_
              refine lstw 4 rfl rfl rfl Try.sizeOf83 rfl rfl rfl ?_
              refine hnil (fun w hw => ⟨(), hw.sub (List.Sublist.cons_cons _ (List.nil_sublist _))⟩) ?_
              refine hq1 15 rfl (by kernel_rfl) (by kernel_rfl) (by kernel_rfl) (fun c a w h => h) (.inr ⟨_, rfl⟩) (fun w hw => ⟨(), hw.sub (List.Sublist.cons_cons _ (List.nil_sublist _))⟩) (fun T => asgb rfl) ?_
              refine hend (by kernel_rfl) ?_
              exact nCut (b14, I2, Hn2) ⟨hI2, hIn2⟩ ⟨rfl, rfl, rfl, rfl, rfl, trivial⟩ ⟨_, List.Perm.refl _, List.Sublist.cons_cons _ (List.Sublist.cons_cons _ (List.Sublist.cons _ (List.Sublist.cons _ (List.Sublist.cons_cons _ (List.Sublist.refl _)))))⟩
          · skip
            refine lal (zs := encI iz) Try.zeroValue83 rfl (fun b15 => ?_)
            refine wl_perm (ins_perm 3 _ _) ?_
            refine hnil (fun w hw => ⟨(), hw.sub (List.Sublist.cons_cons _ (List.nil_sublist _))⟩) ?_
            refine hem2 2 4 (by kernel_rfl) rfl rfl ?_ ?_
            · skip
              refine lappx [_, _] _ [_] (xs := []) (news := (rowsL l n).flatMap encR) el74 rfl rfl ⟨rfl, .inr ⟨_, 0, [], rfl, rfl, Nat.le_refl _, by decide, rfl, rfl⟩⟩ rfl (by rw [flatM_len encR_len, rowsL_len]) (fun h0 => by obtain ⟨b, o, hp, hbl, hm⟩ := hl.at h0; exact ⟨_, hp, fun w' hw => by rw [rowsL_flat]; exact mem_flat (by decide) (fun i => rfl) (fun i hi => (hm i hi).kept hw.below hbl)⟩) (fun u hu => by obtain ⟨r, _, hr⟩ := List.mem_flatMap.1 hu; exact encR_one r u hr) (by unfold maxLen; omega) (by omega) ?_
              intro g1 cap1 oe1 hown1
              rw [List.nil_append] at hown1
              obtain ⟨cur1, rfl⟩ := hown1.blk
              refine hnil (fun w hw => ⟨(), hw.sub (List.Sublist.cons_cons _ (List.nil_sublist _))⟩) ?_
              refine he 4 (by kernel_rfl) rfl ?_
              refine lbs Try.underlying74 rfl (bs74 x) (fun b16 => ?_)
              refine wl_perm (ins_perm 4 _ _) ?_
              refine hnil (fun w hw => ⟨(), hw.sub (List.Sublist.cons_cons _ (List.nil_sublist _))⟩) ?_
              refine he 5 (by kernel_rfl) rfl ?_
              refine lapp [_, _] _ [_] el74 rfl rfl hown1 rfl (news := encR x) rfl (fun w' hw => by have := hw.mem (i := 4) rfl 0; simpa using this) (encR_one _) (by decide) (by unfold maxLen; omega) (by omega) ?_
              intro g2 cap2 oe2 hown2
              obtain ⟨cur2, rfl⟩ := hown2.blk
              have hown3 : OwnL 79 130 (.slice (some ⟨g2, 0, none⟩) (n + 1) cap2) (n + 1) ((rowsL (lx l n x) (n + 1)).flatMap encR) [⟨g2, cur2, 79⟩] := by rw [rowsL_lx, List.flatMap_append]; simpa using hown2
              refine hnil (fun w hw => ⟨(), hw.sub (List.Sublist.cons_cons _ (List.nil_sublist _))⟩) ?_
              refine he 9 (by kernel_rfl) rfl ?_
              refine lclm hb50 rfl (mc (show _ = Value.slice (some ⟨g2, 0, none⟩) (n + 1) cap2 by first | rfl | (simp only [Nat.zero_add]; rfl)) (mc rfl mn)) (fun w' hw => of_calls w' x.hd.item (some ⟨g2, 0, none⟩) (n + 1) cap2 (lx l n x) (by omega) (SlIn.sl ((hown3.slInL (fun a => rfl) (fun i hi => ⟨_, rowsL_get hi, rfl⟩)).mono (fun e he => by obtain rfl := List.mem_singleton.1 he; simp)) hw) (lx_all (fun i hi => (hx i hi).keptS hw) (hxx.keptS hw)) (lx_all kx kxx) (lx_all (Pr := fun r => r.hd.tn ≤ 20 ∧ r.ch.gn ≤ 20) hfx hfxx)) ?_
              rintro v75 Hn2 ⟨I2, rfl, hI2, hIn2⟩
              refine wl_tail 5 ?_
              refine hnil (fun w hw => ⟨(), hw.sub (List.Sublist.cons_cons _ (List.nil_sublist _))⟩) ?_
              refine hq1 10 rfl (by kernel_rfl) (by kernel_rfl) (by kernel_rfl) (fun c a w h => h) (.inr ⟨_, rfl⟩) (fun w hw => ⟨(), hw.sub (List.Sublist.cons_cons _ (List.nil_sublist _))⟩) (fun T => mv rfl) ?_
              refine hq1 11 rfl (by kernel_rfl) (by kernel_rfl) (by kernel_rfl) (fun c a w h => h) (.inl ⟨_, rfl⟩) (fun w hw => ⟨(), hw.sub (List.Sublist.cons_cons _ (List.nil_sublist _))⟩) (fun T => ext (vs := [.agg (encI I2).toArray, .bool (ofI x.hd.item (lx l n x) (n + 1)).2]) rfl rfl) ?_
              refine hq1 12 rfl (by kernel_rfl) (by kernel_rfl) (by kernel_rfl) (fun c a w h => h) (.inl ⟨_, rfl⟩) (fun w hw => ⟨(), hw.sub (List.Sublist.cons_cons _ (List.nil_sublist _))⟩) (fun T => ext (vs := [.agg (encI I2).toArray, .bool (ofI x.hd.item (lx l n x) (n + 1)).2]) rfl rfl) ?_
              refine he 14 (by kernel_rfl) rfl ?_
              refine lstw 3 rfl rfl rfl Try.sizeOf83 rfl rfl rfl ?_
              refine hnil (fun w hw => ⟨(), hw.sub (List.Sublist.cons_cons _ (List.nil_sublist _))⟩) ?_
              refine hq1 15 rfl (by kernel_rfl) (by kernel_rfl) (by kernel_rfl) (fun c a w h => h) (.inr ⟨_, rfl⟩) (fun w hw => ⟨(), hw.sub (List.Sublist.cons_cons _ (List.nil_sublist _))⟩) (fun T => asgb rfl) ?_
              refine hend (by kernel_rfl) ?_
              exact nCut (b15, I2, Hn2) ⟨hI2, hIn2⟩ ⟨rfl, rfl, rfl, rfl, rfl, trivial⟩ ⟨_, List.Perm.refl _, List.Sublist.cons_cons _ (List.Sublist.cons_cons _ (List.Sublist.cons _ (List.Sublist.cons_cons _ (List.Sublist.cons _ (List.Sublist.refl _)))))⟩
            · skip
              refine lbs Try.underlying74 rfl (bs74 x) (fun b17 => ?_)
              refine wl_perm (ins_perm 4 _ _) ?_
              refine hnil (fun w hw => ⟨(), hw.sub (List.Sublist.cons_cons _ (List.nil_sublist _))⟩) ?_
              refine he 2 (by kernel_rfl) rfl ?_
              refine lappx [_, _] _ [_] (xs := []) (news := (rowsL l n).flatMap encR) el74 rfl rfl ⟨rfl, .inr ⟨_, 0, [], rfl, rfl, Nat.le_refl _, by decide, rfl, rfl⟩⟩ rfl (by rw [flatM_len encR_len, rowsL_len]) (fun h0 => by obtain ⟨b, o, hp, hbl, hm⟩ := hl.at h0; exact ⟨_, hp, fun w' hw => by rw [rowsL_flat]; exact mem_flat (by decide) (fun i => rfl) (fun i hi => (hm i hi).kept hw.below hbl)⟩) (fun u hu => by obtain ⟨r, _, hr⟩ := List.mem_flatMap.1 hu; exact encR_one r u hr) (by unfold maxLen; omega) (by omega) ?_
              intro g1 cap1 oe1 hown1
              rw [List.nil_append] at hown1
              obtain ⟨cur1, rfl⟩ := hown1.blk
              refine hnil (fun w hw => ⟨(), hw.sub (List.Sublist.cons_cons _ (List.nil_sublist _))⟩) ?_
              refine he 5 (by kernel_rfl) rfl ?_
              refine lapp [_, _] _ [_] el74 rfl rfl hown1 rfl (news := encR x) rfl (fun w' hw => by have := hw.mem (i := 4) rfl 0; simpa using this) (encR_one _) (by decide) (by unfold maxLen; omega) (by omega) ?_
              intro g2 cap2 oe2 hown2
              obtain ⟨cur2, rfl⟩ := hown2.blk
              have hown3 : OwnL 79 130 (.slice (some ⟨g2, 0, none⟩) (n + 1) cap2) (n + 1) ((rowsL (lx l n x) (n + 1)).flatMap encR) [⟨g2, cur2, 79⟩] := by rw [rowsL_lx, List.flatMap_append]; simpa using hown2
              refine hnil (fun w hw => ⟨(), hw.sub (List.Sublist.cons_cons _ (List.nil_sublist _))⟩) ?_
              refine he 9 (by kernel_rfl) rfl ?_
              refine lclm hb50 rfl (mc (show _ = Value.slice (some ⟨g2, 0, none⟩) (n + 1) cap2 by first | rfl | (simp only [Nat.zero_add]; rfl)) (mc rfl mn)) (fun w' hw => of_calls w' x.hd.item (some ⟨g2, 0, none⟩) (n + 1) cap2 (lx l n x) (by omega) (SlIn.sl ((hown3.slInL (fun a => rfl) (fun i hi => ⟨_, rowsL_get hi, rfl⟩)).mono (fun e he => by obtain rfl := List.mem_singleton.1 he; simp)) hw) (lx_all (fun i hi => (hx i hi).keptS hw) (hxx.keptS hw)) (lx_all kx kxx) (lx_all (Pr := fun r => r.hd.tn ≤ 20 ∧ r.ch.gn ≤ 20) hfx hfxx)) ?_
              rintro v75 Hn2 ⟨I2, rfl, hI2, hIn2⟩
              refine wl_tail 5 ?_
              refine hnil (fun w hw => ⟨(), hw.sub (List.Sublist.cons_cons _ (List.nil_sublist _))⟩) ?_
              refine hq1 10 rfl (by kernel_rfl) (by kernel_rfl) (by kernel_rfl) (fun c a w h => h) (.inr ⟨_, rfl⟩) (fun w hw => ⟨(), hw.sub (List.Sublist.cons_cons _ (List.nil_sublist _))⟩) (fun T => mv rfl) ?_
              refine hq1 11 rfl (by kernel_rfl) (by kernel_rfl) (by kernel_rfl) (fun c a w h => h) (.inl ⟨_, rfl⟩) (fun w hw => ⟨(), hw.sub (List.Sublist.cons_cons _ (List.nil_sublist _))⟩) (fun T => ext (vs := [.agg (encI I2).toArray, .bool (ofI x.hd.item (lx l n x) (n + 1)).2]) rfl rfl) ?_
              refine hq1 12 rfl (by kernel_rfl) (by kernel_rfl) (by kernel_rfl) (fun c a w h => h) (.inl ⟨_, rfl⟩) (fun w hw => ⟨(), hw.sub (List.Sublist.cons_cons _ (List.nil_sublist _))⟩) (fun T => ext (vs := [.agg (encI I2).toArray, .bool (ofI x.hd.item (lx l n x) (n + 1)).2]) rfl rfl) ?_
              refine he 14 (by kernel_rfl) rfl ?_
              refine lstw 3 rfl rfl rfl Try.sizeOf83 rfl rfl rfl ?_
              refine hnil (fun w hw => ⟨(), hw.sub (List.Sublist.cons_cons _ (List.nil_sublist _))⟩) ?_
              refine hq1 15 rfl (by kernel_rfl) (by kernel_rfl) (by kernel_rfl) (fun c a w h => h) (.inr ⟨_, rfl⟩) (fun w hw => ⟨(), hw.sub (List.Sublist.cons_cons _ (List.nil_sublist _))⟩) (fun T => asgb rfl) ?_
              refine hend (by kernel_rfl) ?_
              exact nCut (b15, I2, Hn2) ⟨hI2, hIn2⟩ ⟨rfl, rfl, rfl, rfl, rfl, trivial⟩ ⟨_, List.Perm.refl _, List.Sublist.cons_cons _ (List.Sublist.cons_cons _ (List.Sublist.cons _ (List.Sublist.cons_cons _ (List.Sublist.cons _ (List.Sublist.refl _)))))⟩
        · skip
          refine lbs Try.underlying74 rfl (bs74 x) (fun b18 => ?_)
          refine wl_perm (ins_perm 2 _ _) ?_
          refine hnil (fun w hw => ⟨(), hw.sub (List.Sublist.cons_cons _ (List.nil_sublist _))⟩) ?_
          refine hem2 0 13 (by kernel_rfl) rfl rfl ?_ ?_
          · skip
            refine lbs Try.underlying74 rfl (bs74z) (fun b19 => ?_)
            refine wl_perm (ins_perm 3 _ _) ?_
            refine hnil (fun w hw => ⟨(), hw.sub (List.Sublist.cons_cons _ (List.nil_sublist _))⟩) ?_
            refine hem2 2 13 (by kernel_rfl) rfl rfl ?_ ?_
            · skip
              refine lappx [_, _, _] _ [_] (xs := []) (news := (rowsL l n).flatMap encR) el74 rfl rfl ⟨rfl, .inr ⟨_, 0, [], rfl, rfl, Nat.le_refl _, by decide, rfl, rfl⟩⟩ rfl (by rw [flatM_len encR_len, rowsL_len]) (fun h0 => by obtain ⟨b, o, hp, hbl, hm⟩ := hl.at h0; exact ⟨_, hp, fun w' hw => by rw [rowsL_flat]; exact mem_flat (by decide) (fun i => rfl) (fun i hi => (hm i hi).kept hw.below hbl)⟩) (fun u hu => by obtain ⟨r, _, hr⟩ := List.mem_flatMap.1 hu; exact encR_one r u hr) (by unfold maxLen; omega) (by omega) ?_
              intro g1 cap1 oe1 hown1
              rw [List.nil_append] at hown1
              obtain ⟨cur1, rfl⟩ := hown1.blk
              refine hnil (fun w hw => ⟨(), hw.sub (List.Sublist.cons_cons _ (List.nil_sublist _))⟩) ?_
              refine hem2 5 13 (by kernel_rfl) rfl rfl ?_ ?_
              · skip
                refine lapp [_, _, _] _ [_] el74 rfl rfl hown1 rfl (news := encR x) rfl (fun w' hw => by have := hw.mem (i := 2) rfl 0; simpa using this) (encR_one _) (by decide) (by unfold maxLen; omega) (by omega) ?_
                intro g2 cap2 oe2 hown2
                obtain ⟨cur2, rfl⟩ := hown2.blk
                have hown3 : OwnL 79 130 (.slice (some ⟨g2, 0, none⟩) (n + 1) cap2) (n + 1) ((rowsL (lx l n x) (n + 1)).flatMap encR) [⟨g2, cur2, 79⟩] := by rw [rowsL_lx, List.flatMap_append]; simpa using hown2
                refine hnil (fun w hw => ⟨(), hw.sub (List.Sublist.cons_cons _ (List.nil_sublist _))⟩) ?_
                refine hem2 9 13 (by kernel_rfl) rfl rfl ?_ ?_
                · skip
                  refine lclm hb50 rfl (mc (show _ = Value.slice (some ⟨g2, 0, none⟩) (n + 1) cap2 by first | rfl | (simp only [Nat.zero_add]; rfl)) (mc rfl mn)) (fun w' hw => of_calls w' x.hd.item (some ⟨g2, 0, none⟩) (n + 1) cap2 (lx l n x) (by omega) (SlIn.sl ((hown3.slInL (fun a => rfl) (fun i hi => ⟨_, rowsL_get hi, rfl⟩)).mono (fun e he => by obtain rfl := List.mem_singleton.1 he; simp)) hw) (lx_all (fun i hi => (hx i hi).keptS hw) (hxx.keptS hw)) (lx_all kx kxx) (lx_all (Pr := fun r => r.hd.tn ≤ 20 ∧ r.ch.gn ≤ 20) hfx hfxx)) ?_
                  rintro v75 Hn2 ⟨I2, rfl, hI2, hIn2⟩
                  refine wl_tail 4 ?_
                  refine hnil (fun w hw => ⟨(), hw.sub (List.Sublist.cons_cons _ (List.nil_sublist _))⟩) ?_
                  refine hq1 10 rfl (by kernel_rfl) (by kernel_rfl) (by kernel_rfl) (fun c a w h => h) (.inr ⟨_, rfl⟩) (fun w hw => ⟨(), hw.sub (List.Sublist.cons_cons _ (List.nil_sublist _))⟩) (fun T => mv rfl) ?_
                  refine hq1 11 rfl (by kernel_rfl) (by kernel_rfl) (by kernel_rfl) (fun c a w h => h) (.inl ⟨_, rfl⟩) (fun w hw => ⟨(), hw.sub (List.Sublist.cons_cons _ (List.nil_sublist _))⟩) (fun T => ext (vs := [.agg (encI I2).toArray, .bool (ofI x.hd.item (lx l n x) (n + 1)).2]) rfl rfl) ?_
                  refine hq1 12 rfl (by kernel_rfl) (by kernel_rfl) (by kernel_rfl) (fun c a w h => h) (.inl ⟨_, rfl⟩) (fun w hw => ⟨(), hw.sub (List.Sublist.cons_cons _ (List.nil_sublist _))⟩) (fun T => ext (vs := [.agg (encI I2).toArray, .bool (ofI x.hd.item (lx l n x) (n + 1)).2]) rfl rfl) ?_
                  refine he 13 (by kernel_rfl) rfl ?_
                  refine lal (zs := encI iz) Try.zeroValue83 rfl (fun b20 => ?_)
                  refine wl_perm (ins_perm 4 _ _) ?_
                  refine hnil (fun w hw => ⟨(), hw.sub (List.Sublist.cons_cons _ (List.nil_sublist _))⟩) ?_
                  refine he 14 (by kernel_rfl) rfl ?_
                  refine lstw 4 rfl rfl rfl Try.sizeOf83 rfl rfl rfl ?_
                  refine hnil (fun w hw => ⟨(), hw.sub (List.Sublist.cons_cons _ (List.nil_sublist _))⟩) ?_
                  refine hq1 15 rfl (by kernel_rfl) (by kernel_rfl) (by kernel_rfl) (fun c a w h => h) (.inr ⟨_, rfl⟩) (fun w hw => ⟨(), hw.sub (List.Sublist.cons_cons _ (List.nil_sublist _))⟩) (fun T => asgb rfl) ?_
                  refine hend (by kernel_rfl) ?_
                  exact nCut (b20, I2, Hn2) ⟨hI2, hIn2⟩ ⟨rfl, rfl, rfl, rfl, rfl, trivial⟩ ⟨_, List.Perm.refl _, List.Sublist.cons_cons _ (List.Sublist.cons_cons _ (List.Sublist.cons _ (List.Sublist.cons _ (List.Sublist.cons_cons _ (List.Sublist.refl _)))))⟩
                · skip
                  refine lal (zs := encI iz) Try.zeroValue83 rfl (fun b21 => ?_)
                  refine wl_perm (ins_perm 4 _ _) ?_
                  refine hnil (fun w hw => ⟨(), hw.sub (List.Sublist.cons_cons _ (List.nil_sublist _))⟩) ?_
                  refine he 9 (by kernel_rfl) rfl ?_
                  refine lclm hb50 rfl (mc (show _ = Value.slice (some ⟨g2, 0, none⟩) (n + 1) cap2 by first | rfl | (simp only [Nat.zero_add]; rfl)) (mc rfl mn)) (fun w' hw => of_calls w' x.hd.item (some ⟨g2, 0, none⟩) (n + 1) cap2 (lx l n x) (by omega) (SlIn.sl ((hown3.slInL (fun a => rfl) (fun i hi => ⟨_, rowsL_get hi, rfl⟩)).mono (fun e he => by obtain rfl := List.mem_singleton.1 he; simp)) hw) (lx_all (fun i hi => (hx i hi).keptS hw) (hxx.keptS hw)) (lx_all kx kxx) (lx_all (Pr := fun r => r.hd.tn ≤ 20 ∧ r.ch.gn ≤ 20) hfx hfxx)) ?_
                  rintro v75 Hn2 ⟨I2, rfl, hI2, hIn2⟩
                  refine wl_tail 5 ?_
                  refine hnil (fun w hw => ⟨(), hw.sub (List.Sublist.cons_cons _ (List.nil_sublist _))⟩) ?_
                  refine hq1 10 rfl (by kernel_rfl) (by kernel_rfl) (by kernel_rfl) (fun c a w h => h) (.inr ⟨_, rfl⟩) (fun w hw => ⟨(), hw.sub (List.Sublist.cons_cons _ (List.nil_sublist _))⟩) (fun T => mv rfl) ?_
                  refine hq1 11 rfl (by kernel_rfl) (by kernel_rfl) (by kernel_rfl) (fun c a w h => h) (.inl ⟨_, rfl⟩) (fun w hw => ⟨(), hw.sub (List.Sublist.cons_cons _ (List.nil_sublist _))⟩) (fun T => ext (vs := [.agg (encI I2).toArray, .bool (ofI x.hd.item (lx l n x) (n + 1)).2]) rfl rfl) ?_
                  refine hq1 12 rfl (by kernel_rfl) (by kernel_rfl) (by kernel_rfl) (fun c a w h => h) (.inl ⟨_, rfl⟩) (fun w hw => ⟨(), hw.sub (List.Sublist.cons_cons _ (List.nil_sublist _))⟩) (fun T => ext (vs := [.agg (encI I2).toArray, .bool (ofI x.hd.item (lx l n x) (n + 1)).2]) rfl rfl) ?_
                  refine he 14 (by kernel_rfl) rfl ?_
                  refine lstw 4 rfl rfl rfl Try.sizeOf83 rfl rfl rfl ?_
                  refine hnil (fun w hw => ⟨(), hw.sub (List.Sublist.cons_cons _ (List.nil_sublist _))⟩) ?_
                  refine hq1 15 rfl (by kernel_rfl) (by kernel_rfl) (by kernel_rfl) (fun c a w h => h) (.inr ⟨_, rfl⟩) (fun w hw => ⟨(), hw.sub (List.Sublist.cons_cons _ (List.nil_sublist _))⟩) (fun T => asgb rfl) ?_
                  refine hend (by kernel_rfl) ?_
                  exact nCut (b21, I2, Hn2) ⟨hI2, hIn2⟩ ⟨rfl, rfl, rfl, rfl, rfl, trivial⟩ ⟨_, List.Perm.refl _, List.Sublist.cons_cons _ (List.Sublist.cons_cons _ (List.Sublist.cons _ (List.Sublist.cons _ (List.Sublist.cons_cons _ (List.Sublist.refl _)))))⟩
              · skip
                refine lal (zs := encI iz) Try.zeroValue83 rfl (fun b22 => ?_)
                refine wl_perm (ins_perm 4 _ _) ?_
                refine hnil (fun w hw => ⟨(), hw.sub (List.Sublist.cons_cons _ (List.nil_sublist _))⟩) ?_
                refine he 5 (by kernel_rfl) rfl ?_
                refine lapp [_, _, _] _ [_] el74 rfl rfl hown1 rfl (news := encR x) rfl (fun w' hw => by have := hw.mem (i := 2) rfl 0; simpa using this) (encR_one _) (by decide) (by unfold maxLen; omega) (by omega) ?_
                intro g2 cap2 oe2 hown2
                obtain ⟨cur2, rfl⟩ := hown2.blk
                have hown3 : OwnL 79 130 (.slice (some ⟨g2, 0, none⟩) (n + 1) cap2) (n + 1) ((rowsL (lx l n x) (n + 1)).flatMap encR) [⟨g2, cur2, 79⟩] := by rw [rowsL_lx, List.flatMap_append]; simpa using hown2
                refine hnil (fun w hw => ⟨(), hw.sub (List.Sublist.cons_cons _ (List.nil_sublist _))⟩) ?_
                refine he 9 (by kernel_rfl) rfl ?_
                refine lclm hb50 rfl (mc (show _ = Value.slice (some ⟨g2, 0, none⟩) (n + 1) cap2 by first | rfl | (simp only [Nat.zero_add]; rfl)) (mc rfl mn)) (fun w' hw => of_calls w' x.hd.item (some ⟨g2, 0, none⟩) (n + 1) cap2 (lx l n x) (by omega) (SlIn.sl ((hown3.slInL (fun a => rfl) (fun i hi => ⟨_, rowsL_get hi, rfl⟩)).mono (fun e he => by obtain rfl := List.mem_singleton.1 he; simp)) hw) (lx_all (fun i hi => (hx i hi).keptS hw) (hxx.keptS hw)) (lx_all kx kxx) (lx_all (Pr := fun r => r.hd.tn ≤ 20 ∧ r.ch.gn ≤ 20) hfx hfxx)) ?_
                rintro v75 Hn2 ⟨I2, rfl, hI2, hIn2⟩
                refine wl_tail 5 ?_
                refine hnil (fun w hw => ⟨(), hw.sub (List.Sublist.cons_cons _ (List.nil_sublist _))⟩) ?_
                refine hq1 10 rfl (by kernel_rfl) (by kernel_rfl) (by kernel_rfl) (fun c a w h => h) (.inr ⟨_, rfl⟩) (fun w hw => ⟨(), hw.sub (List.Sublist.cons_cons _ (List.nil_sublist _))⟩) (fun T => mv rfl) ?_
                refine hq1 11 rfl (by kernel_rfl) (by kernel_rfl) (by kernel_rfl) (fun c a w h => h) (.inl ⟨_, rfl⟩) (fun w hw => ⟨(), hw.sub (List.Sublist.cons_cons _ (List.nil_sublist _))⟩) (fun T => ext (vs := [.agg (encI I2).toArray, .bool (ofI x.hd.item (lx l n x) (n + 1)).2]) rfl rfl) ?_
                refine hq1 12 rfl (by kernel_rfl) (by kernel_rfl) (by kernel_rfl) (fun c a w h => h) (.inl ⟨_, rfl⟩) (fun w hw => ⟨(), hw.sub (List.Sublist.cons_cons _ (List.nil_sublist _))⟩) (fun T => ext (vs := [.agg (encI I2).toArray, .bool (ofI x.hd.item (lx l n x) (n + 1)).2]) rfl rfl) ?_
                refine he 14 (by kernel_rfl) rfl ?_
                refine lstw 4 rfl rfl rfl Try.sizeOf83 rfl rfl rfl ?_
                refine hnil (fun w hw => ⟨(), hw.sub (List.Sublist.cons_cons _ (List.nil_sublist _))⟩) ?_
                refine hq1 15 rfl (by kernel_rfl) (by kernel_rfl) (by kernel_rfl) (fun c a w h => h) (.inr ⟨_, rfl⟩) (fun w hw => ⟨(), hw.sub (List.Sublist.cons_cons _ (List.nil_sublist _))⟩) (fun T => asgb rfl) ?_
                refine hend (by kernel_rfl) ?_
                exact nCut (b22, I2, Hn2) ⟨hI2, hIn2⟩ ⟨rfl, rfl, rfl, rfl, rfl, trivial⟩ ⟨_, List.Perm.refl _, List.Sublist.cons_cons _ (List.Sublist.cons_cons _ (List.Sublist.cons _ (List.Sublist.cons _ (List.Sublist.cons_cons _ (List.Sublist.refl _)))))⟩
            · skip
              refine lal (zs := encI iz) Try.zeroValue83 rfl (fun b23 => ?_)
              refine wl_perm (ins_perm 4 _ _) ?_
              refine hnil (fun w hw => ⟨(), hw.sub (List.Sublist.cons_cons _ (List.nil_sublist _))⟩) ?_
              refine he 2 (by kernel_rfl) rfl ?_
              refine lappx [_, _, _] _ [_] (xs := []) (news := (rowsL l n).flatMap encR) el74 rfl rfl ⟨rfl, .inr ⟨_, 0, [], rfl, rfl, Nat.le_refl _, by decide, rfl, rfl⟩⟩ rfl (by rw [flatM_len encR_len, rowsL_len]) (fun h0 => by obtain ⟨b, o, hp, hbl, hm⟩ := hl.at h0; exact ⟨_, hp, fun w' hw => by rw [rowsL_flat]; exact mem_flat (by decide) (fun i => rfl) (fun i hi => (hm i hi).kept hw.below hbl)⟩) (fun u hu => by obtain ⟨r, _, hr⟩ := List.mem_flatMap.1 hu; exact encR_one r u hr) (by unfold maxLen; omega) (by omega) ?_
              intro g1 cap1 oe1 hown1
              rw [List.nil_append] at hown1
              obtain ⟨cur1, rfl⟩ := hown1.blk
              refine hnil (fun w hw => ⟨(), hw.sub (List.Sublist.cons_cons _ (List.nil_sublist _))⟩) ?_
              refine he 5 (by kernel_rfl) rfl ?_
              refine lapp [_, _, _] _ [_] el74 rfl rfl hown1 rfl (news := encR x) rfl (fun w' hw => by have := hw.mem (i := 2) rfl 0; simpa using this) (encR_one _) (by decide) (by unfold maxLen; omega) (by omega) ?_
              intro g2 cap2 oe2 hown2
              obtain ⟨cur2, rfl⟩ := hown2.blk
              have hown3 : OwnL 79 130 (.slice (some ⟨g2, 0, none⟩) (n + 1) cap2) (n + 1) ((rowsL (lx l n x) (n + 1)).flatMap encR) [⟨g2, cur2, 79⟩] := by rw [rowsL_lx, List.flatMap_append]; simpa using hown2
              refine hnil (fun w hw => ⟨(), hw.sub (List.Sublist.cons_cons _ (List.nil_sublist _))⟩) ?_
              refine he 9 (by kernel_rfl) rfl ?_
              refine lclm hb50 rfl (mc (show _ = Value.slice (some ⟨g2, 0, none⟩) (n + 1) cap2 by first | rfl | (simp only [Nat.zero_add]; rfl)) (mc rfl mn)) (fun w' hw => of_calls w' x.hd.item (some ⟨g2, 0, none⟩) (n + 1) cap2 (lx l n x) (by omega) (SlIn.sl ((hown3.slInL (fun a => rfl) (fun i hi => ⟨_, rowsL_get hi, rfl⟩)).mono (fun e he => by obtain rfl := List.mem_singleton.1 he; simp)) hw) (lx_all (fun i hi => (hx i hi).keptS hw) (hxx.keptS hw)) (lx_all kx kxx) (lx_all (Pr := fun r => r.hd.tn ≤ 20 ∧ r.ch.gn ≤ 20) hfx hfxx)) ?_
              rintro v75 Hn2 ⟨I2, rfl, hI2, hIn2⟩
              refine wl_tail 5 ?_
              refine hnil (fun w hw => ⟨(), hw.sub (List.Sublist.cons_cons _ (List.nil_sublist _))⟩) ?_
              refine hq1 10 rfl (by kernel_rfl) (by kernel_rfl) (by kernel_rfl) (fun c a w h => h) (.inr ⟨_, rfl⟩) (fun w hw => ⟨(), hw.sub (List.Sublist.cons_cons _ (List.nil_sublist _))⟩) (fun T => mv rfl) ?_
              refine hq1 11 rfl (by kernel_rfl) (by kernel_rfl) (by kernel_rfl) (fun c a w h => h) (.inl ⟨_, rfl⟩) (fun w hw => ⟨(), hw.sub (List.Sublist.cons_cons _ (List.nil_sublist _))⟩) (fun T => ext (vs := [.agg (encI I2).toArray, .bool (ofI x.hd.item (lx l n x) (n + 1)).2]) rfl rfl) ?_
              refine hq1 12 rfl (by kernel_rfl) (by kernel_rfl) (by kernel_rfl) (fun c a w h => h) (.inl ⟨_, rfl⟩) (fun w hw => ⟨(), hw.sub (List.Sublist.cons_cons _ (List.nil_sublist _))⟩) (fun T => ext (vs := [.agg (encI I2).toArray, .bool (ofI x.hd.item (lx l n x) (n + 1)).2]) rfl rfl) ?_
              refine he 14 (by kernel_rfl) rfl ?_
              refine lstw 4 rfl rfl rfl Try.sizeOf83 rfl rfl rfl ?_
              refine hnil (fun w hw => ⟨(), hw.sub (List.Sublist.cons_cons _ (List.nil_sublist _))⟩) ?_
              refine hq1 15 rfl (by kernel_rfl) (by kernel_rfl) (by kernel_rfl) (fun c a w h => h) (.inr ⟨_, rfl⟩) (fun w hw => ⟨(), hw.sub (List.Sublist.cons_cons _ (List.nil_sublist _))⟩) (fun T => asgb rfl) ?_
              refine hend (by kernel_rfl) ?_
              exact nCut (b23, I2, Hn2) ⟨hI2, hIn2⟩ ⟨rfl, rfl, rfl, rfl, rfl, trivial⟩ ⟨_, List.Perm.refl _, List.Sublist.cons_cons _ (List.Sublist.cons_cons _ (List.Sublist.cons _ (List.Sublist.cons _ (List.Sublist.cons_cons _ (List.Sublist.refl _)))))⟩
          · skip
            refine lal (zs := encI iz) Try.zeroValue83 rfl (fun b24 => ?_)
            refine wl_perm (ins_perm 3 _ _) ?_
            refine hnil (fun w hw => ⟨(), hw.sub (List.Sublist.cons_cons _ (List.nil_sublist _))⟩) ?_
            refine he 0 (by kernel_rfl) rfl ?_
            refine lbs Try.underlying74 rfl (bs74z) (fun b25 => ?_)
            refine wl_perm (ins_perm 4 _ _) ?_
            refine hnil (fun w hw => ⟨(), hw.sub (List.Sublist.cons_cons _ (List.nil_sublist _))⟩) ?_
            refine he 2 (by kernel_rfl) rfl ?_
            refine lappx [_, _, _, _] _ [_] (xs := []) (news := (rowsL l n).flatMap encR) el74 rfl rfl ⟨rfl, .inr ⟨_, 0, [], rfl, rfl, Nat.le_refl _, by decide, rfl, rfl⟩⟩ rfl (by rw [flatM_len encR_len, rowsL_len]) (fun h0 => by obtain ⟨b, o, hp, hbl, hm⟩ := hl.at h0; exact ⟨_, hp, fun w' hw => by rw [rowsL_flat]; exact mem_flat (by decide) (fun i => rfl) (fun i hi => (hm i hi).kept hw.below hbl)⟩) (fun u hu => by obtain ⟨r, _, hr⟩ := List.mem_flatMap.1 hu; exact encR_one r u hr) (by unfold maxLen; omega) (by omega) ?_
            intro g1 cap1 oe1 hown1
            rw [List.nil_append] at hown1
            obtain ⟨cur1, rfl⟩ := hown1.blk
            refine hnil (fun w hw => ⟨(), hw.sub (List.Sublist.cons_cons _ (List.nil_sublist _))⟩) ?_
            refine he 5 (by kernel_rfl) rfl ?_
            refine lapp [_, _, _, _] _ [_] el74 rfl rfl hown1 rfl (news := encR x) rfl (fun w' hw => by have := hw.mem (i := 2) rfl 0; simpa using this) (encR_one _) (by decide) (by unfold maxLen; omega) (by omega) ?_
            intro g2 cap2 oe2 hown2
            obtain ⟨cur2, rfl⟩ := hown2.blk
            have hown3 : OwnL 79 130 (.slice (some ⟨g2, 0, none⟩) (n + 1) cap2) (n + 1) ((rowsL (lx l n x) (n + 1)).flatMap encR) [⟨g2, cur2, 79⟩] := by rw [rowsL_lx, List.flatMap_append]; simpa using hown2
            refine hnil (fun w hw => ⟨(), hw.sub (List.Sublist.cons_cons _ (List.nil_sublist _))⟩) ?_
            refine he 9 (by kernel_rfl) rfl ?_
            refine lclm hb50 rfl (mc (show _ = Value.slice (some ⟨g2, 0, none⟩) (n + 1) cap2 by first | rfl | (simp only [Nat.zero_add]; rfl)) (mc rfl mn)) (fun w' hw => of_calls w' x.hd.item (some ⟨g2, 0, none⟩) (n + 1) cap2 (lx l n x) (by omega) (SlIn.sl ((hown3.slInL (fun a => rfl) (fun i hi => ⟨_, rowsL_get hi, rfl⟩)).mono (fun e he => by obtain rfl := List.mem_singleton.1 he; simp)) hw) (lx_all (fun i hi => (hx i hi).keptS hw) (hxx.keptS hw)) (lx_all kx kxx) (lx_all (Pr := fun r => r.hd.tn ≤ 20 ∧ r.ch.gn ≤ 20) hfx hfxx)) ?_
            rintro v75 Hn2 ⟨I2, rfl, hI2, hIn2⟩
            refine wl_tail 5 ?_
            refine hnil (fun w hw => ⟨(), hw.sub (List.Sublist.cons_cons _ (List.nil_sublist _))⟩) ?_
            refine hq1 10 rfl (by kernel_rfl) (by kernel_rfl) (by kernel_rfl) (fun c a w h => h) (.inr ⟨_, rfl⟩) (fun w hw => ⟨(), hw.sub (List.Sublist.cons_cons _ (List.nil_sublist _))⟩) (fun T => mv rfl) ?_
            refine hq1 11 rfl (by kernel_rfl) (by kernel_rfl) (by kernel_rfl) (fun c a w h => h) (.inl ⟨_, rfl⟩) (fun w hw => ⟨(), hw.sub (List.Sublist.cons_cons _ (List.nil_sublist _))⟩) (fun T => ext (vs := [.agg (encI I2).toArray, .bool (ofI x.hd.item (lx l n x) (n + 1)).2]) rfl rfl) ?_
            refine hq1 12 rfl (by kernel_rfl) (by kernel_rfl) (by kernel_rfl) (fun c a w h => h) (.inl ⟨_, rfl⟩) (fun w hw => ⟨(), hw.sub (List.Sublist.cons_cons _ (List.nil_sublist _))⟩) (fun T => ext (vs := [.agg (encI I2).toArray, .bool (ofI x.hd.item (lx l n x) (n + 1)).2]) rfl rfl) ?_
            refine he 14 (by kernel_rfl) rfl ?_
            refine lstw 3 rfl rfl rfl Try.sizeOf83 rfl rfl rfl ?_
            refine hnil (fun w hw => ⟨(), hw.sub (List.Sublist.cons_cons _ (List.nil_sublist _))⟩) ?_
            refine hq1 15 rfl (by kernel_rfl) (by kernel_rfl) (by kernel_rfl) (fun c a w h => h) (.inr ⟨_, rfl⟩) (fun w hw => ⟨(), hw.sub (List.Sublist.cons_cons _ (List.nil_sublist _))⟩) (fun T => asgb rfl) ?_
            refine hend (by kernel_rfl) ?_
            exact nCut (b24, I2, Hn2) ⟨hI2, hIn2⟩ ⟨rfl, rfl, rfl, rfl, rfl, trivial⟩ ⟨_, List.Perm.refl _, List.Sublist.cons_cons _ (List.Sublist.cons_cons _ (List.Sublist.cons _ (List.Sublist.cons_cons _ (List.Sublist.cons _ (List.Sublist.refl _)))))⟩
        · skip
          refine lal (zs := encI iz) Try.zeroValue83 rfl (fun b26 => ?_)
          refine wl_perm (ins_perm 2 _ _) ?_
          refine hnil (fun w hw => ⟨(), hw.sub (List.Sublist.cons_cons _ (List.nil_sublist _))⟩) ?_
          refine hem2 0 4 (by kernel_rfl) rfl rfl ?_ ?_
          · skip
            refine lbs Try.underlying74 rfl (bs74z) (fun b27 => ?_)
            refine wl_perm (ins_perm 3 _ _) ?_
            refine hnil (fun w hw => ⟨(), hw.sub (List.Sublist.cons_cons _ (List.nil_sublist _))⟩) ?_
            refine hem2 2 4 (by kernel_rfl) rfl rfl ?_ ?_
            · skip
              refine lappx [_, _, _] _ [_] (xs := []) (news := (rowsL l n).flatMap encR) el74 rfl rfl ⟨rfl, .inr ⟨_, 0, [], rfl, rfl, Nat.le_refl _, by decide, rfl, rfl⟩⟩ rfl (by rw [flatM_len encR_len, rowsL_len]) (fun h0 => by obtain ⟨b, o, hp, hbl, hm⟩ := hl.at h0; exact ⟨_, hp, fun w' hw => by rw [rowsL_flat]; exact mem_flat (by decide) (fun i => rfl) (fun i hi => (hm i hi).kept hw.below hbl)⟩) (fun u hu => by obtain ⟨r, _, hr⟩ := List.mem_flatMap.1 hu; exact encR_one r u hr) (by unfold maxLen; omega) (by omega) ?_
              intro g1 cap1 oe1 hown1
              rw [List.nil_append] at hown1
              obtain ⟨cur1, rfl⟩ := hown1.blk
              refine hnil (fun w hw => ⟨(), hw.sub (List.Sublist.cons_cons _ (List.nil_sublist _))⟩) ?_
              refine he 4 (by kernel_rfl) rfl ?_
              refine lbs Try.underlying74 rfl (bs74 x) (fun b28 => ?_)
              refine wl_perm (ins_perm 4 _ _) ?_
              refine hnil (fun w hw => ⟨(), hw.sub (List.Sublist.cons_cons _ (List.nil_sublist _))⟩) ?_
              refine he 5 (by kernel_rfl) rfl ?_
              refine lapp [_, _, _] _ [_] el74 rfl rfl hown1 rfl (news := encR x) rfl (fun w' hw => by have := hw.mem (i := 4) rfl 0; simpa using this) (encR_one _) (by decide) (by unfold maxLen; omega) (by omega) ?_
              intro g2 cap2 oe2 hown2
              obtain ⟨cur2, rfl⟩ := hown2.blk
              have hown3 : OwnL 79 130 (.slice (some ⟨g2, 0, none⟩) (n + 1) cap2) (n + 1) ((rowsL (lx l n x) (n + 1)).flatMap encR) [⟨g2, cur2, 79⟩] := by rw [rowsL_lx, List.flatMap_append]; simpa using hown2
              refine hnil (fun w hw => ⟨(), hw.sub (List.Sublist.cons_cons _ (List.nil_sublist _))⟩) ?_
              refine he 9 (by kernel_rfl) rfl ?_
              refine lclm hb50 rfl (mc (show _ = Value.slice (some ⟨g2, 0, none⟩) (n + 1) cap2 by first | rfl | (simp only [Nat.zero_add]; rfl)) (mc rfl mn)) (fun w' hw => of_calls w' x.hd.item (some ⟨g2, 0, none⟩) (n + 1) cap2 (lx l n x) (by omega) (SlIn.sl ((hown3.slInL (fun a => rfl) (fun i hi => ⟨_, rowsL_get hi, rfl⟩)).mono (fun e he => by obtain rfl := List.mem_singleton.1 he; simp)) hw) (lx_all (fun i hi => (hx i hi).keptS hw) (hxx.keptS hw)) (lx_all kx kxx) (lx_all (Pr := fun r => r.hd.tn ≤ 20 ∧ r.ch.gn ≤ 20) hfx hfxx)) ?_
              rintro v75 Hn2 ⟨I2, rfl, hI2, hIn2⟩
              refine wl_tail 5 ?_
              refine hnil (fun w hw => ⟨(), hw.sub (List.Sublist.cons_cons _ (List.nil_sublist _))⟩) ?_
              refine hq1 10 rfl (by kernel_rfl) (by kernel_rfl) (by kernel_rfl) (fun c a w h => h) (.inr ⟨_, rfl⟩) (fun w hw => ⟨(), hw.sub (List.Sublist.cons_cons _ (List.nil_sublist _))⟩) (fun T => mv rfl) ?_
              refine hq1 11 rfl (by kernel_rfl) (by kernel_rfl) (by kernel_rfl) (fun c a w h => h) (.inl ⟨_, rfl⟩) (fun w hw => ⟨(), hw.sub (List.Sublist.cons_cons _ (List.nil_sublist _))⟩) (fun T => ext (vs := [.agg (encI I2).toArray, .bool (ofI x.hd.item (lx l n x) (n + 1)).2]) rfl rfl) ?_
              refine hq1 12 rfl (by kernel_rfl) (by kernel_rfl) (by kernel_rfl) (fun c a w h => h) (.inl ⟨_, rfl⟩) (fun w hw => ⟨(), hw.sub (List.Sublist.cons_cons _ (List.nil_sublist _))⟩) (fun T => ext (vs := [.agg (encI I2).toArray, .bool (ofI x.hd.item (lx l n x) (n + 1)).2]) rfl rfl) ?_
              refine he 14 (by kernel_rfl) rfl ?_
              refine lstw 2 rfl rfl rfl Try.sizeOf83 rfl rfl rfl ?_
              refine hnil (fun w hw => ⟨(), hw.sub (List.Sublist.cons_cons _ (List.nil_sublist _))⟩) ?_
              refine hq1 15 rfl (by kernel_rfl) (by kernel_rfl) (by kernel_rfl) (fun c a w h => h) (.inr ⟨_, rfl⟩) (fun w hw => ⟨(), hw.sub (List.Sublist.cons_cons _ (List.nil_sublist _))⟩) (fun T => asgb rfl) ?_
              refine hend (by kernel_rfl) ?_
              exact nCut (b26, I2, Hn2) ⟨hI2, hIn2⟩ ⟨rfl, rfl, rfl, rfl, rfl, trivial⟩ ⟨_, List.Perm.refl _, List.Sublist.cons_cons _ (List.Sublist.cons_cons _ (List.Sublist.cons_cons _ (List.Sublist.cons _ (List.Sublist.cons _ (List.Sublist.refl _)))))⟩
            · skip
              refine lbs Try.underlying74 rfl (bs74 x) (fun b29 => ?_)
              refine wl_perm (ins_perm 4 _ _) ?_
              refine hnil (fun w hw => ⟨(), hw.sub (List.Sublist.cons_cons _ (List.nil_sublist _))⟩) ?_
              refine he 2 (by kernel_rfl) rfl ?_
              refine lappx [_, _, _] _ [_] (xs := []) (news := (rowsL l n).flatMap encR) el74 rfl rfl ⟨rfl, .inr ⟨_, 0, [], rfl, rfl, Nat.le_refl _, by decide, rfl, rfl⟩⟩ rfl (by rw [flatM_len encR_len, rowsL_len]) (fun h0 => by obtain ⟨b, o, hp, hbl, hm⟩ := hl.at h0; exact ⟨_, hp, fun w' hw => by rw [rowsL_flat]; exact mem_flat (by decide) (fun i => rfl) (fun i hi => (hm i hi).kept hw.below hbl)⟩) (fun u hu => by obtain ⟨r, _, hr⟩ := List.mem_flatMap.1 hu; exact encR_one r u hr) (by unfold maxLen; omega) (by omega) ?_
              intro g1 cap1 oe1 hown1
              rw [List.nil_append] at hown1
              obtain ⟨cur1, rfl⟩ := hown1.blk
              refine hnil (fun w hw => ⟨(), hw.sub (List.Sublist.cons_cons _ (List.nil_sublist _))⟩) ?_
              refine he 5 (by kernel_rfl) rfl ?_
              refine lapp [_, _, _] _ [_] el74 rfl rfl hown1 rfl (news := encR x) rfl (fun w' hw => by have := hw.mem (i := 4) rfl 0; simpa using this) (encR_one _) (by decide) (by unfold maxLen; omega) (by omega) ?_
              intro g2 cap2 oe2 hown2
              obtain ⟨cur2, rfl⟩ := hown2.blk
              have hown3 : OwnL 79 130 (.slice (some ⟨g2, 0, none⟩) (n + 1) cap2) (n + 1) ((rowsL (lx l n x) (n + 1)).flatMap encR) [⟨g2, cur2, 79⟩] := by rw [rowsL_lx, List.flatMap_append]; simpa using hown2
              refine hnil (fun w hw => ⟨(), hw.sub (List.Sublist.cons_cons _ (List.nil_sublist _))⟩) ?_
              refine he 9 (by kernel_rfl) rfl ?_
              refine lclm hb50 rfl (mc (show _ = Value.slice (some ⟨g2, 0, none⟩) (n + 1) cap2 by first | rfl | (simp only [Nat.zero_add]; rfl)) (mc rfl mn)) (fun w' hw => of_calls w' x.hd.item (some ⟨g2, 0, none⟩) (n + 1) cap2 (lx l n x) (by omega) (SlIn.sl ((hown3.slInL (fun a => rfl) (fun i hi => ⟨_, rowsL_get hi, rfl⟩)).mono (fun e he => by obtain rfl := List.mem_singleton.1 he; simp)) hw) (lx_all (fun i hi => (hx i hi).keptS hw) (hxx.keptS hw)) (lx_all kx kxx) (lx_all (Pr := fun r => r.hd.tn ≤ 20 ∧ r.ch.gn ≤ 20) hfx hfxx)) ?_
              rintro v75 Hn2 ⟨I2, rfl, hI2, hIn2⟩
              refine wl_tail 5 ?_
              refine hnil (fun w hw => ⟨(), hw.sub (List.Sublist.cons_cons _ (List.nil_sublist _))⟩) ?_
              refine hq1 10 rfl (by kernel_rfl) (by kernel_rfl) (by kernel_rfl) (fun c a w h => h) (.inr ⟨_, rfl⟩) (fun w hw => ⟨(), hw.sub (List.Sublist.cons_cons _ (List.nil_sublist _))⟩) (fun T => mv rfl) ?_
              refine hq1 11 rfl (by kernel_rfl) (by kernel_rfl) (by kernel_rfl) (fun c a w h => h) (.inl ⟨_, rfl⟩) (fun w hw => ⟨(), hw.sub (List.Sublist.cons_cons _ (List.nil_sublist _))⟩) (fun T => ext (vs := [.agg (encI I2).toArray, .bool (ofI x.hd.item (lx l n x) (n + 1)).2]) rfl rfl) ?_
              refine hq1 12 rfl (by kernel_rfl) (by kernel_rfl) (by kernel_rfl) (fun c a w h => h) (.inl ⟨_, rfl⟩) (fun w hw => ⟨(), hw.sub (List.Sublist.cons_cons _ (List.nil_sublist _))⟩) (fun T => ext (vs := [.agg (encI I2).toArray, .bool (ofI x.hd.item (lx l n x) (n + 1)).2]) rfl rfl) ?_
              refine he 14 (by kernel_rfl) rfl ?_
              refine lstw 2 rfl rfl rfl Try.sizeOf83 rfl rfl rfl ?_
              refine hnil (fun w hw => ⟨(), hw.sub (List.Sublist.cons_cons _ (List.nil_sublist _))⟩) ?_
              refine hq1 15 rfl (by kernel_rfl) (by kernel_rfl) (by kernel_rfl) (fun c a w h => h) (.inr ⟨_, rfl⟩) (fun w hw => ⟨(), hw.sub (List.Sublist.cons_cons _ (List.nil_sublist _))⟩) (fun T => asgb rfl) ?_
              refine hend (by kernel_rfl) ?_
              exact nCut (b26, I2, Hn2) ⟨hI2, hIn2⟩ ⟨rfl, rfl, rfl, rfl, rfl, trivial⟩ ⟨_, List.Perm.refl _, List.Sublist.cons_cons _ (List.Sublist.cons_cons _ (List.Sublist.cons_cons _ (List.Sublist.cons _ (List.Sublist.cons _ (List.Sublist.refl _)))))⟩
          · skip
            refine lbs Try.underlying74 rfl (bs74 x) (fun b30 => ?_)
            refine wl_perm (ins_perm 3 _ _) ?_
            refine hnil (fun w hw => ⟨(), hw.sub (List.Sublist.cons_cons _ (List.nil_sublist _))⟩) ?_
            refine he 0 (by kernel_rfl) rfl ?_
            refine lbs Try.underlying74 rfl (bs74z) (fun b31 => ?_)
            refine wl_perm (ins_perm 4 _ _) ?_
            refine hnil (fun w hw => ⟨(), hw.sub (List.Sublist.cons_cons _ (List.nil_sublist _))⟩) ?_
            refine he 2 (by kernel_rfl) rfl ?_
            refine lappx [_, _, _, _] _ [_] (xs := []) (news := (rowsL l n).flatMap encR) el74 rfl rfl ⟨rfl, .inr ⟨_, 0, [], rfl, rfl, Nat.le_refl _, by decide, rfl, rfl⟩⟩ rfl (by rw [flatM_len encR_len, rowsL_len]) (fun h0 => by obtain ⟨b, o, hp, hbl, hm⟩ := hl.at h0; exact ⟨_, hp, fun w' hw => by rw [rowsL_flat]; exact mem_flat (by decide) (fun i => rfl) (fun i hi => (hm i hi).kept hw.below hbl)⟩) (fun u hu => by obtain ⟨r, _, hr⟩ := List.mem_flatMap.1 hu; exact encR_one r u hr) (by unfold maxLen; omega) (by omega) ?_
            intro g1 cap1 oe1 hown1
            rw [List.nil_append] at hown1
            obtain ⟨cur1, rfl⟩ := hown1.blk
            refine hnil (fun w hw => ⟨(), hw.sub (List.Sublist.cons_cons _ (List.nil_sublist _))⟩) ?_
            refine he 5 (by kernel_rfl) rfl ?_
            refine lapp [_, _, _, _] _ [_] el74 rfl rfl hown1 rfl (news := encR x) rfl (fun w' hw => by have := hw.mem (i := 3) rfl 0; simpa using this) (encR_one _) (by decide) (by unfold maxLen; omega) (by omega) ?_
            intro g2 cap2 oe2 hown2
            obtain ⟨cur2, rfl⟩ := hown2.blk
            have hown3 : OwnL 79 130 (.slice (some ⟨g2, 0, none⟩) (n + 1) cap2) (n + 1) ((rowsL (lx l n x) (n + 1)).flatMap encR) [⟨g2, cur2, 79⟩] := by rw [rowsL_lx, List.flatMap_append]; simpa using hown2
            refine hnil (fun w hw => ⟨(), hw.sub (List.Sublist.cons_cons _ (List.nil_sublist _))⟩) ?_
            refine he 9 (by kernel_rfl) rfl ?_
            refine lclm hb50 rfl (mc (show _ = Value.slice (some ⟨g2, 0, none⟩) (n + 1) cap2 by first | rfl | (simp only [Nat.zero_add]; rfl)) (mc rfl mn)) (fun w' hw => of_calls w' x.hd.item (some ⟨g2, 0, none⟩) (n + 1) cap2 (lx l n x) (by omega) (SlIn.sl ((hown3.slInL (fun a => rfl) (fun i hi => ⟨_, rowsL_get hi, rfl⟩)).mono (fun e he => by obtain rfl := List.mem_singleton.1 he; simp)) hw) (lx_all (fun i hi => (hx i hi).keptS hw) (hxx.keptS hw)) (lx_all kx kxx) (lx_all (Pr := fun r => r.hd.tn ≤ 20 ∧ r.ch.gn ≤ 20) hfx hfxx)) ?_
            rintro v75 Hn2 ⟨I2, rfl, hI2, hIn2⟩
            refine wl_tail 5 ?_
            refine hnil (fun w hw => ⟨(), hw.sub (List.Sublist.cons_cons _ (List.nil_sublist _))⟩) ?_
            refine hq1 10 rfl (by kernel_rfl) (by kernel_rfl) (by kernel_rfl) (fun c a w h => h) (.inr ⟨_, rfl⟩) (fun w hw => ⟨(), hw.sub (List.Sublist.cons_cons _ (List.nil_sublist _))⟩) (fun T => mv rfl) ?_
            refine hq1 11 rfl (by kernel_rfl) (by kernel_rfl) (by kernel_rfl) (fun c a w h => h) (.inl ⟨_, rfl⟩) (fun w hw => ⟨(), hw.sub (List.Sublist.cons_cons _ (List.nil_sublist _))⟩) (fun T => ext (vs := [.agg (encI I2).toArray, .bool (ofI x.hd.item (lx l n x) (n + 1)).2]) rfl rfl) ?_
            refine hq1 12 rfl (by kernel_rfl) (by kernel_rfl) (by kernel_rfl) (fun c a w h => h) (.inl ⟨_, rfl⟩) (fun w hw => ⟨(), hw.sub (List.Sublist.cons_cons _ (List.nil_sublist _))⟩) (fun T => ext (vs := [.agg (encI I2).toArray, .bool (ofI x.hd.item (lx l n x) (n + 1)).2]) rfl rfl) ?_
            refine he 14 (by kernel_rfl) rfl ?_
            refine lstw 2 rfl rfl rfl Try.sizeOf83 rfl rfl rfl ?_
            refine hnil (fun w hw => ⟨(), hw.sub (List.Sublist.cons_cons _ (List.nil_sublist _))⟩) ?_
            refine hq1 15 rfl (by kernel_rfl) (by kernel_rfl) (by kernel_rfl) (fun c a w h => h) (.inr ⟨_, rfl⟩) (fun w hw => ⟨(), hw.sub (List.Sublist.cons_cons _ (List.nil_sublist _))⟩) (fun T => asgb rfl) ?_
            refine hend (by kernel_rfl) ?_
            exact nCut (b26, I2, Hn2) ⟨hI2, hIn2⟩ ⟨rfl, rfl, rfl, rfl, rfl, trivial⟩ ⟨_, List.Perm.refl _, List.Sublist.cons_cons _ (List.Sublist.cons_cons _ (List.Sublist.cons_cons _ (List.Sublist.cons _ (List.Sublist.cons _ (List.Sublist.refl _)))))⟩
      · rintro ⟨b8, I2, Hn2⟩ j ⟨hI2, hIn2⟩; replace hI2 : coreI I2 = coreI (ofI x.hd.item (lx l n x) (n + 1)).1 := hI2; replace hIn2 : ItIn Hn2 I2 := hIn2; have hMF := more_facts hkey kxx hF3; obtain ⟨hIh, hIk, hIa, hIm, hIv⟩ := coreI_f hI1; obtain ⟨h2h, h2k, h2a, h2m, h2v⟩ := coreI_f hI2; have hlat : laterH x.hd I.hd = laterH x.hd (ofI x.hd.item l n).1.hd := (show laterH x.hd (core I.hd) = laterH x.hd (core (ofI x.hd.item l n).1.hd) by rw [hIh]); have h2ok : HdOk I2.hd := core_ok h2h (of_ok (lx_all (Pr := fun r => RwOk r) kx kxx))
        refine nthen ?_
        refine cseq ?_
        refine cseq ?_
        refine creg ?_
        refine l1 (mvb rfl) ?_
        refine l1 (nt rfl) ?_
        refine lnil ?_
        refine nthen ?_
        refine ciff (bf rfl (by rw [hMF.has]; rfl)) ?_
        refine cskip ?_
        refine nthen ?_
        refine cseq ?_
        refine cseq ?_
        refine creg ?_
        refine l1 (mvb rfl) ?_
        refine l1 (mvb rfl) ?_
        refine l1g rfl (gwt rfl) (fun h => fa fa79_0 rfl) ?_
        refine l1g rfl (gwt rfl) (fun h => lda 0 Try.isAgg37 Try.sizeOf37 rfl (gvt h) (encR_hd _) rfl) ?_
        refine l1g rfl (gwt rfl) (fun h => fa fa83_1 rfl) ?_
        refine l1g rfl (gwt rfl) (fun h => lda 1 Try.isAgg37 Try.sizeOf37 rfl (gvt h) (encI_hd _) rfl) ?_
        refine l1g rfl (gwt rfl) (fun h => cl hb28 rfl (mc (gvt h) (mc (gvt h) mn)) (fun w hw => later_calls _ _ w)) ?_
        refine l1g rfl (gwt rfl) (fun h => nt (gvt h)) ?_
        refine l1 (pk_and rfl rfl rfl) ?_
        refine lnil ?_
        refine nthen ?_
        refine cif rfl (fun h4 => ?_) (fun h4 => ?_)
        · rw [hlat] at h4
          have ho := hMF.old (al h4) (by (have := al2 h4; simpa using this))
          refine cseq ?_
          refine creg ?_
          refine l1 (fa fa83_1 rfl) ?_
          refine l1 (lda 2 Try.isAgg37 Try.sizeOf37 rfl rfl (encI_hd _) rfl) ?_
          refine l1 (fa fa83_1 rfl) ?_
          refine l1 (lda 1 Try.isAgg37 Try.sizeOf37 rfl rfl (encI_hd _) rfl) ?_
          refine l1 (cl hb47 rfl (mc rfl (mc rfl mn)) (fun w hw => (by first | exact sameH_calls _ _ w (SlIn.sl hIn2.h (hw.sub (List.Sublist.cons _ (List.Sublist.cons _ (List.Sublist.cons _ (List.sublist_append_right _ _)))))) (SlIn.sl hIn.h (hw.sub (List.Sublist.cons _ (List.Sublist.cons _ (List.Sublist.cons _ (List.sublist_append_left _ _)))))) h2ok | exact sameH_calls _ _ w (SlIn.sl hIn2.h (hw.sub (List.Sublist.cons _ (List.Sublist.cons _ (List.Sublist.cons _ (List.sublist_append_right _ _)))))) (hxx.keptS hw).h h2ok))) ?_
          refine l1 (mvb rfl) ?_
          refine l1g rfl (gwt rfl) (fun h => fa fa83_2 rfl) ?_
          refine l1g rfl (gwt rfl) (fun h => ldc 2 Try.isAgg4 rfl (gvt h) rfl) ?_
          refine l1g rfl (gwt rfl) (fun h => fa fa83_2 rfl) ?_
          refine l1g rfl (gwt rfl) (fun h => ldc 1 Try.isAgg4 rfl (gvt h) rfl) ?_
          refine l1g rfl (gwt rfl) (fun h => eqlb Try.underlying4 (gvt h) (gvt h)) ?_
          refine l1 (pk_and rfl rfl rfl) ?_
          refine l1 (asgb rfl) ?_
          refine lnil ?_
          refine nthen ?_
          refine cret ?_
          refine nthenR ?_
          exact fin1b rfl rfl (by rw [same_core (h2h.trans ((congrArg core ho.1).trans hIh.symm)), h2k, hIk, ho.2]; simp)
        · rw [hlat] at h4
          have hnw := hMF.new h4
          refine cskip ?_
          refine nthen ?_
          refine cseq ?_
          refine cseq ?_
          refine creg ?_
          refine l1 (fa fa83_1 rfl) ?_
          refine l1 (lda 2 Try.isAgg37 Try.sizeOf37 rfl rfl (encI_hd _) rfl) ?_
          refine l1 (fa fa79_0 rfl) ?_
          refine l1 (lda 0 Try.isAgg37 Try.sizeOf37 rfl rfl (encR_hd _) rfl) ?_
          refine l1 (cl hb47 rfl (mc rfl (mc rfl mn)) (fun w hw => (by first | exact sameH_calls _ _ w (SlIn.sl hIn2.h (hw.sub (List.Sublist.cons _ (List.Sublist.cons _ (List.Sublist.cons _ (List.sublist_append_right _ _)))))) (SlIn.sl hIn.h (hw.sub (List.Sublist.cons _ (List.Sublist.cons _ (List.Sublist.cons _ (List.sublist_append_left _ _)))))) h2ok | exact sameH_calls _ _ w (SlIn.sl hIn2.h (hw.sub (List.Sublist.cons _ (List.Sublist.cons _ (List.Sublist.cons _ (List.sublist_append_right _ _)))))) (hxx.keptS hw).h h2ok))) ?_
          refine l1 (nt rfl) ?_
          refine l1 (mvb rfl) ?_
          refine l1g rfl (gwf rfl) (fun h => fa fa83_2 rfl) ?_
          refine l1g rfl (gwf rfl) (fun h => ldc 2 Try.isAgg4 rfl (gvt h) rfl) ?_
          refine l1g rfl (gwf rfl) (fun h => fa fa79_1 rfl) ?_
          refine l1g rfl (gwf rfl) (fun h => ldc 0 Try.isAgg4 rfl (gvt h) rfl) ?_
          refine l1g rfl (gwf rfl) (fun h => neqb Try.underlying4 (gvt h) (gvt h)) ?_
          refine l1 (pk_or rfl rfl rfl) ?_
          refine lnil ?_
          refine nthen ?_
          refine ciff (bf rfl (by rw [same_core (h2h.trans (congrArg core hnw.1)), h2k, hnw.2]; simp)) ?_
          refine cskip ?_
          refine nthen ?_
          refine cseq ?_
          refine cseq ?_
          refine creg ?_
          refine l1 (fa fa79_1 rfl) ?_
          refine l1 (ldc 0 Try.isAgg4 rfl rfl rfl) ?_
          refine l1 (nt rfl) ?_
          refine lnil ?_
          refine nthen ?_
          refine cif rfl (fun h5 => ?_) (fun h5 => ?_)
          · have hk : x.known = false := by (simpa using h5)
            have hbl := hMF.blank h4 hk
            refine cseq ?_
            refine creg ?_
            refine l1 (fa fa83_3 rfl) ?_
            refine l1 (ldc 2 Try.isAgg4 rfl rfl rfl) ?_
            refine l1 (fa fa83_3 rfl) ?_
            refine l1 (ldc 1 Try.isAgg4 rfl rfl rfl) ?_
            refine l1 (eqlb Try.underlying4 rfl rfl) ?_
            refine l1 (mvb rfl) ?_
            refine l1g rfl (gwt rfl) (fun h => fa fa83_6 rfl) ?_
            refine l1g rfl (gwt rfl) (fun h => ldc 2 Try.isAgg9 rfl (gvt h) rfl) ?_
            refine l1g rfl (gwt rfl) (fun h => fa fa83_6 rfl) ?_
            refine l1g rfl (gwt rfl) (fun h => ldc 1 Try.isAgg9 rfl (gvt h) rfl) ?_
            refine l1g rfl (gwt rfl) (fun h => eqls (gvt h) (gvt h)) ?_
            refine l1 (pk_and rfl rfl rfl) ?_
            refine l1 (asgb rfl) ?_
            refine lnil ?_
            refine nthen ?_
            refine cret ?_
            refine nthenR ?_
            exact fin1b rfl rfl (by rw [h2a, h2v, hIa, hIv, hbl.1, hbl.2]; simp)
          · have hk : x.known = true := by (simpa using h5)
            refine cskip ?_
            refine nthen ?_
            refine cseq ?_
            refine cseq ?_
            refine creg ?_
            refine l1 (fa fa79_2 rfl) ?_
            refine l1 (fa fa77_0 rfl) ?_
            refine l1 (ldc 0 Try.isAgg3 rfl rfl rfl) ?_
            refine l1 (eql rfl rfl) ?_
            refine lnil ?_
            refine nthen ?_
            refine cif rfl (fun h6 => ?_) (fun h6 => ?_)
            · have htg := hMF.tags h4 hk (dt h6)
              refine cseq ?_
              refine creg ?_
              refine l1 (fa fa83_3 rfl) ?_
              refine l1 (ldc 2 Try.isAgg4 rfl rfl rfl) ?_
              refine l1 (fa fa83_3 rfl) ?_
              refine l1 (ldc 1 Try.isAgg4 rfl rfl rfl) ?_
              refine l1 (eqlb Try.underlying4 rfl rfl) ?_
              refine l1 (mvb rfl) ?_
              refine l1g rfl (gwt rfl) (fun h => fa fa83_4 rfl) ?_
              refine l1g rfl (gwt rfl) (fun h => ldc 2 Try.isAgg9 rfl (gvt h) rfl) ?_
              refine l1g rfl (gwt rfl) (fun h => fa fa79_2 rfl) ?_
              refine l1g rfl (gwt rfl) (fun h => fa fa77_1 (gvt h)) ?_
              refine l1g rfl (gwt rfl) (fun h => ldc 0 Try.isAgg9 rfl (gvt h) rfl) ?_
              refine l1g rfl (gwt rfl) (fun h => eqls (gvt h) (gvt h)) ?_
              refine l1 (pk_and rfl rfl rfl) ?_
              refine l1 (asgb rfl) ?_
              refine lnil ?_
              refine nthen ?_
              refine cret ?_
              refine nthenR ?_
              exact fin1b rfl rfl (by rw [h2a, h2m, hIa, htg.1, htg.2]; simp)
            · have hlf := hMF.life h4 hk (df h6)
              refine cskip ?_
              refine nthen ?_
              refine cseq ?_
              refine creg ?_
              refine l1 (fa fa83_3 rfl) ?_
              refine l1 (ldc 2 Try.isAgg4 rfl rfl rfl) ?_
              refine l1 (fa fa79_2 rfl) ?_
              refine l1 (fa fa77_0 rfl) ?_
              refine l1 (ldc 0 Try.isAgg3 rfl rfl rfl) ?_
              refine l1 (eql rfl rfl) ?_
              refine l1 (eqlb Try.underlying4 rfl rfl) ?_
              refine l1 (mvb rfl) ?_
              refine l1g rfl (gwt rfl) (fun h => fa fa83_6 rfl) ?_
              refine l1g rfl (gwt rfl) (fun h => ldc 2 Try.isAgg9 rfl (gvt h) rfl) ?_
              refine l1g rfl (gwt rfl) (fun h => fa fa79_2 rfl) ?_
              refine l1g rfl (gwt rfl) (fun h => fa fa77_3 (gvt h)) ?_
              refine l1g rfl (gwt rfl) (fun h => ldc 0 Try.isAgg9 rfl (gvt h) rfl) ?_
              refine l1g rfl (gwt rfl) (fun h => eqls (gvt h) (gvt h)) ?_
              refine l1 (pk_and rfl rfl rfl) ?_
              refine l1 (mvb rfl) ?_
              refine l1g rfl (gwt rfl) (fun h => fa fa83_4 rfl) ?_
              refine l1g rfl (gwt rfl) (fun h => ldc 2 Try.isAgg9 rfl (gvt h) rfl) ?_
              refine l1g rfl (gwt rfl) (fun h => fa fa79_2 rfl) ?_
              refine l1g rfl (gwt rfl) (fun h => fa fa77_1 (gvt h)) ?_
              refine l1g rfl (gwt rfl) (fun h => ldc 0 Try.isAgg9 rfl (gvt h) rfl) ?_
              refine l1g rfl (gwt rfl) (fun h => eqls (gvt h) (gvt h)) ?_
              refine l1 (pk_and rfl rfl rfl) ?_
              refine l1 (asgb rfl) ?_
              refine lnil ?_
              refine nthen ?_
              refine cret ?_
              exact fin1b rfl rfl (by rw [h2a, h2v, h2m, hlf.1, hlf.2.1, hlf.2.2]; simp)
end Go.Proofs.Ytkdbjhlkahkobaa
/- the same items, as the reference tells them: plain laws -/
namespace Go.Proofs.Ytkdbjhlkahkobaa
open Jal Go.RowKit
set_option maxRecDepth 100000
def byteI (x : Int) : Prop := 0 ≤ x ∧ x ≤ 255
def strB (l : List Int) : ByteArray := pushAll ByteArray.empty l
theorem loop_list (s : ByteArray) : ∀ (k i : Nat) (r : List UInt8), s.size - i = k → ByteArray.toList.loop s i r = r.reverse ++ s.data.toList.drop i := by
  intro k
  induction k with
  | zero =>
    intro i r h
    rw [ByteArray.toList.loop]
    have : ¬ i < s.size := by omega
    rw [if_neg this, List.drop_eq_nil_of_le (by rw [Array.length_toList]; show s.size ≤ i; omega), List.append_nil]
  | succ k ih =>
    intro i r h
    rw [ByteArray.toList.loop]
    have hi : i < s.size := by omega
    rw [if_pos hi, ih (i + 1) _ (by omega)]
    have hd : s.data.toList.drop i = s.get! i :: s.data.toList.drop (i + 1) := by
      rw [List.drop_eq_getElem_cons (by rw [Array.length_toList]; exact hi)]
      congr 1
      rw [Array.getElem_toList]
      show _ = s.data[i]!
      rw [getElem!_pos s.data i hi]
    rw [hd, List.reverse_cons, List.append_assoc]; rfl
theorem toList_data (s : ByteArray) : s.toList = s.data.toList := by
  show ByteArray.toList.loop s 0 [] = _
  rw [loop_list s s.size 0 [] rfl]; rfl
theorem pushAll_list : ∀ (l : List Int) (s : ByteArray), (pushAll s l).data.toList = s.data.toList ++ l.map (fun x => UInt8.ofNat x.toNat)
  | [], s => (List.append_nil _).symm
  | x :: l, s => by
    show (pushAll (s.push (UInt8.ofNat x.toNat)) l).data.toList = _
    rw [pushAll_list l]
    show (s.data.push _).toList ++ _ = _
    rw [Array.toList_push]
    simp
theorem strB_list (l : List Int) : (strB l).toList = l.map (fun x => UInt8.ofNat x.toNat) := by
  unfold strB
  rw [toList_data, pushAll_list]; rfl
theorem map_inj : ∀ {l m : List Int}, (∀ x ∈ l, byteI x) → (∀ x ∈ m, byteI x) → l.map (fun x => UInt8.ofNat x.toNat) = m.map (fun x => UInt8.ofNat x.toNat) → l = m
  | [], [], _, _, _ => rfl
  | [], _ :: _, _, _, h => by cases h
  | _ :: _, [], _, _, h => by cases h
  | x :: l, y :: m, hl, hm, h => by
    rw [List.map_cons, List.map_cons] at h
    injection h with h1 h2
    have hx := hl x (by simp)
    have hy := hm y (by simp)
    unfold byteI at hx hy
    have h3 : (UInt8.ofNat x.toNat).toNat = (UInt8.ofNat y.toNat).toNat := by rw [h1]
    rw [UInt8.toNat_ofNat_of_lt' (by show x.toNat < 256; omega), UInt8.toNat_ofNat_of_lt' (by show y.toNat < 256; omega)] at h3
    rw [map_inj (fun z hz => hl z (List.mem_cons_of_mem _ hz)) (fun z hz => hm z (List.mem_cons_of_mem _ hz)) h2, show x = y by omega]
theorem strB_eq {l m : List Int} (hl : ∀ x ∈ l, byteI x) (hm : ∀ x ∈ m, byteI x) : ((strB l).toList == (strB m).toList) = (l == m) := by
  rw [strB_list, strB_list, Bool.eq_iff_iff, beq_iff_eq, beq_iff_eq]
  exact ⟨map_inj hl hm, fun h => by rw [h]⟩
theorem numB_byte (x : Nat) : ∀ y ∈ numB x, byteI y := by
  induction x using Nat.strongRecOn with
  | _ x ih =>
    intro y hy
    by_cases hx : 0 < x / 128
    · rw [numB_more hx] at hy
      rcases List.mem_cons.1 hy with rfl | hy
      · unfold byteI; omega
      · exact ih (x / 128) (by omega) y hy
    · rw [numB_last hx] at hy
      obtain rfl := List.mem_singleton.1 hy
      unfold byteI; omega
theorem aL_byte {n : Nat} {f : Nat → Int} (h : ∀ i, i < n → byteI (f i)) : ∀ y ∈ aL n f, byteI y := by
  intro y hy
  obtain ⟨i, hi, rfl⟩ := List.mem_map.1 hy
  exact h i (List.mem_range.1 hi)
theorem flatI_byte {n : Nat} {f : Nat → List Int} (h : ∀ i, i < n → ∀ y ∈ f i, byteI y) : ∀ y ∈ flatI n f, byteI y := by
  intro y hy
  obtain ⟨i, hi, h1⟩ := List.mem_flatMap.1 hy
  exact h i (List.mem_range.1 hi) y h1
theorem app_byte {a b : List Int} (h1 : ∀ y ∈ a, byteI y) (h2 : ∀ y ∈ b, byteI y) : ∀ y ∈ a ++ b, byteI y := fun y hy => (List.mem_append.1 hy).elim (h1 y) (h2 y)
theorem hdBy_byte {h : Hd} (k : HdOk h) : ∀ y ∈ hdBy h, byteI y := by
  unfold hdBy
  cases !rformedH h with
  | true => intro y hy; cases hy
  | false =>
    show ∀ y ∈ coreBy h ++ aL 32 h.code, byteI y
    unfold coreBy
    refine app_byte (app_byte (app_byte (app_byte (app_byte (app_byte (app_byte (app_byte (app_byte (app_byte (app_byte (app_byte (numB_byte _) (numB_byte _)) (aL_byte fun i hi => k.prev i hi)) (numB_byte _)) (fun y hy => ?_)) (numB_byte _)) (aL_byte fun i hi => k.item i hi)) (numB_byte _))
      (flatI_byte fun i hi => aL_byte fun j hj => k.tok i hi j hj)) (flatI_byte fun i hi => numB_byte _)) (aL_byte fun i hi => k.sum i hi)) (numB_byte _)) (aL_byte fun i hi => k.code i hi)
    obtain rfl := List.mem_singleton.1 hy
    unfold byteI
    cases h.control <;> decide
def strH (h : Hd) : ByteArray := strB (hdBy h)
theorem strH_eq {a b : Hd} (ka : HdOk a) (kb : HdOk b) : ((strH a).toList == (strH b).toList) = (hdBy a == hdBy b) := strB_eq (hdBy_byte ka) (hdBy_byte kb)
theorem formed_w1 {x : Hd} (h : formedH x = true) : 1 ≤ x.writer := by
  unfold formedH at h
  cases hp : placedB x with
  | false => rw [hp] at h; simp at h
  | true => exact (plc_no (placed_no hp)).1
theorem hdBy_pos {h : Hd} (k : I64 h.size) (hf : formedH h = true) : 0 < (hdBy h).length := by
  rw [by_yes (h := h) (by rw [rformed_eq k, hf]; rfl), List.length_append, aL_len]
  omega
theorem hz_by : hdBy hz = [] := by_no (by rw [rformed_eq hz_ok.z]; rfl)
/-- a formed header, and one that is formed or none -/
theorem strH_same {a b : Hd} (ka : HdOk a) (kb : HdOk b) (fa : formedH a = true) (fb : formedH b = true ∨ b = hz) : ((strH a).toList == (strH b).toList) = sameH a b := by
  rw [strH_eq ka kb]
  rcases fb with fb | rfl
  · exact hdBy_same ka kb fa fb
  · rw [hz_by]
    have h1 : (hdBy a == []) = false := by
      have := hdBy_pos ka.z fa
      cases h : hdBy a with
      | nil => rw [h] at this; simp at this
      | cons x l => rfl
    rw [h1]
    unfold sameH
    have hw : decide (a.writer = hz.writer) = false := decide_eq_false (by have := formed_w1 fa; show ¬ a.writer = 0; omega)
    rw [hw]
    cases eqTok a.tn a.tok hz.tn hz.tok <;> rfl
def chI (i : It) : Ch := ⟨0, i.name, i.gp, i.gn, i.gc, i.tag, i.value⟩
theorem sameCh_chI (a b : It) : sameCh (chI a) (chI b) = (((a.name.toList == b.name.toList) && eqS a.gn a.tag b.gn b.tag) && (a.value.toList == b.value.toList)) := by
  unfold sameCh eqS
  show (bif decide ((a.gn : Int) ≠ (b.gn : Int)) then false else bif (List.range a.gn).any (fun i => !((a.tag i).toList == (b.tag i).toList)) then false else ((decide ((0 : Int) = 0) && (a.name.toList == b.name.toList)) && (a.value.toList == b.value.toList))) = _
  cases decide ((a.gn : Int) ≠ (b.gn : Int)) with
  | true => simp
  | false =>
    have h1 : ((List.range a.gn).all fun i => (a.tag i).toList == (b.tag i).toList) = !((List.range a.gn).any fun i => !((a.tag i).toList == (b.tag i).toList)) := by
      rw [List.any_eq_not_all_not]; simp
    simp only [cond_false]
    rw [h1]
    cases (List.range a.gn).any fun i => !((a.tag i).toList == (b.tag i).toList) <;> simp
def rsameI (a b : It) : Bool := (((eqA 16 a.tok b.tok && (a.known == b.known)) && (a.alive == b.alive)) && sameCh (chI a) (chI b)) && ((strH a.hd).toList == (strH b.hd).toList)
theorem rsame_eq {a b : It} (ka : HdOk a.hd) (kb : HdOk b.hd) (fa : formedH a.hd = true) (fb : formedH b.hd = true ∨ b.hd = hz) : rsameI a b = sameI a b := by
  unfold rsameI sameI
  rw [strH_same ka kb fa fb, sameCh_chI]
  cases eqA 16 a.tok b.tok <;> cases sameH a.hd b.hd <;> cases (a.known == b.known) <;> cases (a.alive == b.alive) <;> cases (a.name.toList == b.name.toList) <;> cases eqS a.gn a.tag b.gn b.tag <;> cases (a.value.toList == b.value.toList) <;> rfl
theorem strH_core (h : Hd) : strH h = strH (core h) := rfl
theorem eqS_refl (n : Nat) (t : Nat → ByteArray) : eqS n t n t = true := eqS_yes (by simp) (fun i _ => by simp)
theorem rsame_core {a b : It} (h : coreI a = coreI b) : rsameI a b = true := by
  have e : rsameI a b = rsameI (coreI a) (coreI b) := rfl
  rw [e, h]
  unfold rsameI
  rw [sameCh_chI, eqS_refl, eqA_refl]
  simp
theorem rsame_re {a b c : It} (h : coreI a = coreI b) : rsameI a c = rsameI b c := by
  have e : rsameI a c = rsameI (coreI a) c := rfl
  have e2 : rsameI b c = rsameI (coreI b) c := rfl
  rw [e, e2, h]
theorem rsame_re2 {a b c : It} (h : coreI a = coreI b) : rsameI c a = rsameI c b := by
  have e : rsameI c a = rsameI c (coreI a) := rfl
  have e2 : rsameI c b = rsameI c (coreI b) := rfl
  rw [e, e2, h]
theorem same_re {a b c : It} (h : coreI a = coreI b) : sameI a c = sameI b c := by
  have e : sameI a c = sameI (coreI a) c := rfl
  have e2 : sameI b c = sameI (coreI b) c := rfl
  rw [e, e2, h]
theorem same_re2 {a b c : It} (h : coreI a = coreI b) : sameI c a = sameI c b := by
  have e : sameI c a = sameI c (coreI a) := rfl
  have e2 : sameI c b = sameI c (coreI b) := rfl
  rw [e, e2, h]
theorem of_formed {tok : Nat → Int} {l : Nat → Rw} {n : Nat} (h : (ofI tok l n).2 = true) : formedH (ofI tok l n).1.hd = true := by
  unfold ofI at h ⊢
  cases hd : decide (((ofRows tok (counted l n)).length : Int) = 0) with
  | true => rw [hd] at h; cases h
  | false =>
    show formedH (madeI tok (ofRows tok (counted l n))).hd = true
    rw [(made_f tok _).1]
    have h2 : (latR anyR (ofRows tok (counted l n))).2 = true := by rw [any_2, hd]; rfl
    obtain ⟨h3, _⟩ := lat_in anyR _ h2
    obtain ⟨j, _, _, h4⟩ := cnt_mem l n _ (List.mem_filter.1 h3).1
    unfold formedR at h4
    cases h5 : formedH (latR anyR (ofRows tok (counted l n))).1.hd with
    | true => rfl
    | false => rw [h5] at h4; cases h4
theorem of_iz {tok : Nat → Int} {l : Nat → Rw} {n : Nat} (h : (ofI tok l n).2 = false) : (ofI tok l n).1 = iz := by
  unfold ofI at h ⊢
  cases hd : decide (((ofRows tok (counted l n)).length : Int) = 0) with
  | true => rfl
  | false => rw [hd] at h; cases h
theorem of_head (tok : Nat → Int) (l : Nat → Rw) (n : Nat) : formedH (ofI tok l n).1.hd = true ∨ (ofI tok l n).1.hd = hz := by
  cases h : (ofI tok l n).2 with
  | true => exact .inl (of_formed h)
  | false => rw [of_iz h]; exact .inr rfl
/-- of two items of tokens: told alike, where the first is there -/
theorem of_same {tok tok2 : Nat → Int} {l : Nat → Rw} {n : Nat} (k : ∀ i, i < n → RwOk (l i)) (h : (ofI tok l n).2 = true) : rsameI (ofI tok l n).1 (ofI tok2 l n).1 = sameI (ofI tok l n).1 (ofI tok2 l n).1 :=
  rsame_eq (of_ok k) (of_ok k) (of_formed h) (of_head tok2 l n)
end Go.Proofs.Ytkdbjhlkahkobaa
/- reads under a guard, taken first in a region that draws; bytes turned into a text -/
namespace Jal
open Go Go.RowKit
section
variable {P : Program} {ops : Array Oper} {Q : Exit → Act → World → Prop} {w0 : World} {H : List Ent} {n : Nat} {F : Nat → Value} {X : Type} {Hx : X → List Ent} {fuel : Nat} {listed : Array Bool}
theorem hq1g (i : Nat) {j dj : Nat} {want g : Bool} {d : Nat} {op : Op} {ty : TypeId} {pos : String} {af : Array Edge} {v : Value} (hi : ops[i]? = some ⟨some d, op, ty, pos, af, some (j, want)⟩) (hj : (ops[j]?).bind (·.dst) = some dj) (hg : GW (ev n F (.tmp dj)) want g)
    (hs : Region.noSelect ops = true) (hf : Region.free .any ops listed i = true) (hr : (Region.ready .any ops listed).contains i = true) (hQ : ∀ c a w, Q (.panic c) (a.put (some d) (gv g v)) w → Q (.panic c) a w)
    (hX : (∃ E : Sem Value, execOp (ev n F) ⟨some d, op, ty, pos, af, some (j, want)⟩ = (do let u ← E; pure (Next.value u))) ∨ ∃ u, execOp (ev n F) ⟨some d, op, ty, pos, af, some (j, want)⟩ = pure (Next.value u)) (hS : ∀ w, Sat w0 H w → SX w0 Hx w)
    (hq : g = true → ∀ x, Qu P (Sat w0 (Hx x)) (ev n F) ⟨some d, op, ty, pos, af, some (j, want)⟩ v) (h : WH P ops Q (SX w0 Hx) w0 H fuel (listed.setIfInBounds i true) n (upd F d (gv g v))) :
    WH P ops Q (SX w0 Hx) w0 H (fuel + 1) listed n F := fun w hw => by
  refine wpAnyH_take hi hs hf hr hQ ?_ (hS w hw) (by rw [fr_put]; exact h w hw)
  have hw1 := wanted_fr (ops := ops) (n := n) (F := F) (o := ⟨some d, op, ty, pos, af, some (j, want)⟩) rfl hj hg
  cases g with
  | true =>
    refine .inl ⟨hw1, fun w ⟨x, hx⟩ => ?_⟩
    rw [fr_eval, gvt rfl]
    exact pure_of_qu hX (hq rfl x) w hx
  | false => exact .inr ⟨hw1, gv_false v⟩
theorem pure_of_quk {C : World → Prop} {ρ : Operand → Value} {o : Oper} {v : Value} (hX : ∃ (A : Type) (E : Sem A) (f : A → Value), execOp ρ o = (do let b ← E; pure (Next.value (f b)))) (hq : Qu P C ρ o v) (w : World) (hw : C w) : (execOp ρ o).run P w = .ok (.value v) w := by
  have h := hq w hw
  obtain ⟨A, E, f, hE⟩ := hX
  rw [hE, Sem.run_bind] at h ⊢
  cases hr : E.run P w with
  | ok u w' =>
    rw [hr] at h
    simp only [Result.andThen_ok, Sem.run_pure] at h ⊢
    obtain ⟨h1, h2⟩ := h
    subst h1; subst h2; rfl
  | halt x w' =>
    rw [hr] at h
    exact absurd h (by simp [Result.andThen, Oper.quietUpon])
theorem hq1k (i : Nat) {d : Nat} {op : Op} {ty : TypeId} {pos : String} {af : Array Edge} {v : Value} (hi : ops[i]? = some ⟨some d, op, ty, pos, af, none⟩) (hs : Region.noSelect ops = true) (hf : Region.free .any ops listed i = true)
    (hr : (Region.ready .any ops listed).contains i = true) (hQ : ∀ c a w, Q (.panic c) (a.put (some d) v) w → Q (.panic c) a w)
    (hX : ∃ (A : Type) (E : Sem A) (f : A → Value), execOp (ev n F) ⟨some d, op, ty, pos, af, none⟩ = (do let b ← E; pure (Next.value (f b)))) (hS : ∀ w, Sat w0 H w → SX w0 Hx w)
    (hq : ∀ x, Qu P (Sat w0 (Hx x)) (ev n F) ⟨some d, op, ty, pos, af, none⟩ v) (h : WH P ops Q (SX w0 Hx) w0 H fuel (listed.setIfInBounds i true) n (upd F d v)) :
    WH P ops Q (SX w0 Hx) w0 H (fuel + 1) listed n F := fun w hw =>
  wpAnyH_take hi hs hf hr hQ (.inl ⟨rfl, fun w ⟨x, hx⟩ => by rw [fr_eval]; exact pure_of_quk hX (hq x) w hx⟩) (hS w hw) (by rw [fr_put]; exact h w hw)
theorem hq1gk (i : Nat) {j dj : Nat} {want g : Bool} {d : Nat} {op : Op} {ty : TypeId} {pos : String} {af : Array Edge} {v : Value} (hi : ops[i]? = some ⟨some d, op, ty, pos, af, some (j, want)⟩) (hj : (ops[j]?).bind (·.dst) = some dj) (hg : GW (ev n F (.tmp dj)) want g)
    (hs : Region.noSelect ops = true) (hf : Region.free .any ops listed i = true) (hr : (Region.ready .any ops listed).contains i = true) (hQ : ∀ c a w, Q (.panic c) (a.put (some d) (gv g v)) w → Q (.panic c) a w)
    (hX : ∃ (A : Type) (E : Sem A) (f : A → Value), execOp (ev n F) ⟨some d, op, ty, pos, af, some (j, want)⟩ = (do let b ← E; pure (Next.value (f b)))) (hS : ∀ w, Sat w0 H w → SX w0 Hx w)
    (hq : g = true → ∀ x, Qu P (Sat w0 (Hx x)) (ev n F) ⟨some d, op, ty, pos, af, some (j, want)⟩ v) (h : WH P ops Q (SX w0 Hx) w0 H fuel (listed.setIfInBounds i true) n (upd F d (gv g v))) :
    WH P ops Q (SX w0 Hx) w0 H (fuel + 1) listed n F := fun w hw => by
  refine wpAnyH_take hi hs hf hr hQ ?_ (hS w hw) (by rw [fr_put]; exact h w hw)
  have hw1 := wanted_fr (ops := ops) (n := n) (F := F) (o := ⟨some d, op, ty, pos, af, some (j, want)⟩) rfl hj hg
  cases g with
  | true =>
    refine .inl ⟨hw1, fun w ⟨x, hx⟩ => ?_⟩
    rw [fr_eval, gvt rfl]
    exact pure_of_quk hX (hq rfl x) w hx
  | false => exact .inr ⟨hw1, gv_false v⟩
end
end Jal
namespace Go.Proofs.Ytkdbjhlkahkobaa
open Jal Go.RowKit
set_option maxRecDepth 100000
theorem cvbs {ρ : Operand → Value} {d : Option Tmp} {ty : TypeId} {pos : String} {af : Array Edge} {g : Option (Nat × Bool)} {w0 : World} {H oe : List Ent} {x : Operand} {v : Value} {l : List Int}
    (hx : ρ x = v) (ho : OwnL 5 1 v l.length (bv l) oe) (hsub : oe.Sublist H) : Qu Try.prog (Sat w0 H) ρ ⟨d, .convert 56 9 x, ty, pos, af, g⟩ (.string (strB l)) :=
  qu_of_run fun w hw => by
    have key : (Conv.bytesToString v).run Try.prog w = .ok (.string (strB l)) w := by
      rcases ho.2 with ⟨rfl, h0, _⟩ | ⟨b, cap, cur, rfl, rfl, _, _, _, ht⟩
      · obtain rfl : l = [] := List.eq_nil_of_length_eq_zero h0
        rfl
      · refine run_b2s (fun j u hj => ?_)
        refine (hw.sub hsub).mem (i := 0) (e := ⟨b, cur, 5⟩) rfl 0 j u ?_
        rw [← ht, List.getElem?_take] at hj
        split at hj
        · simpa using hj
        · cases hj
    unfold execOp
    rcases ho.form with ⟨p, c, rfl⟩
    cases p <;> simp [hx, convert, run_underlying Try.underlying56, run_underlying Try.underlying9, run_underlying Try.underlying5, key]
end Go.Proofs.Ytkdbjhlkahkobaa
/- walks, printed by a program of ours -/
namespace Go.Proofs.Ytkdbjhlkahkobaa
open Jal Go.RowKit
set_option maxRecDepth 100000
def difK (r s : Rw) : Bool := decide (s.hd.writer ≠ r.hd.writer) || decide (s.hd.seq ≠ r.hd.seq)
theorem all_succ {f : Bool} {C : List Rw} {q : Nat} {p : Rw → Bool} (hq : q < C.length) : ((f && (C.take q).all p) && p (C.getD q rz)) = (f && (C.take (q + 1)).all p) := by
  rw [take_succR hq, List.all_append, Bool.and_assoc]
  simp
theorem dif_seen (C : List Rw) (r : Rw) : C.all (difK r) = !seenR C r := by
  unfold seenR
  induction C with
  | nil => rfl
  | cons s C ih =>
    rw [List.all_cons, List.any_cons, ih, Bool.not_or]
    congr 1
    unfold difK eq140 keyR
    by_cases h1 : s.hd.writer = r.hd.writer <;> by_cases h2 : s.hd.seq = r.hd.seq <;> simp [h1, h2, Ne.symm] <;> intro h <;> first | exact absurd h.symm h1 | exact absurd h.symm h2
theorem cnt_yes {l : Nat → Rw} {i : Nat} (k : RwOk (l i)) (h : (rformedR (l i) && (counted l i).all (difK (l i))) = true) : counted l (i + 1) = counted l i ++ [l i] := by
  rw [counted_succ]
  unfold cntStep
  rw [dif_seen, rformedR_eq k, Bool.and_eq_true] at h
  rw [h.1, show seenR (counted l i) (l i) = false by simpa using h.2]; rfl
theorem cnt_no {l : Nat → Rw} {i : Nat} (k : RwOk (l i)) (h : (rformedR (l i) && (counted l i).all (difK (l i))) = false) : counted l (i + 1) = counted l i := by
  rw [counted_succ]
  unfold cntStep
  rw [dif_seen, rformedR_eq k] at h
  have : (!formedR (l i) || seenR (counted l i) (l i)) = true := by
    cases h1 : formedR (l i) <;> cases h2 : seenR (counted l i) (l i) <;> rw [h1, h2] at h <;> first | rfl | cases h
  rw [this]; rfl
theorem own_row {p : Option Addr} {n c q : Nat} {C : List Rw} {oe : List Ent} (h : OwnL 79 130 (.slice p n c) n (C.flatMap encR) oe) (hC : C.length = n) (hq : q < n) :
    ∃ g, p = some ⟨g, 0, none⟩ ∧ ∀ w0 H w, Sat w0 H w → oe.Sublist H → Mem w ⟨g, 0 + q * 130, none⟩ (encR (C.getD q rz)) := by
  rcases h.2 with ⟨_, h0, _⟩ | ⟨g, cap, cur, h1, h2, _⟩
  · omega
  · cases h1
    refine ⟨g, rfl, fun w0 H w hw hs => ?_⟩
    have hsl := SlIn.sl (h.slInL (el := fun i => encR (C.getD i rz)) (fun a => rfl) (fun i hi => ⟨C.getD i rz, getD_getR (by omega), rfl⟩)) (hw.sub hs)
    obtain ⟨b, o, hp, _, hm⟩ := hsl.at hq
    cases hp
    exact hm q hq

set_option maxHeartbeats 2000000 in
theorem counting_calls (w : World) (p : Option Addr) (n c : Nat) (l : Nat → Rw) (hn : n ≤ 100) (hl : Sl w p n 130 (fun i => encR (l i))) (hx : ∀ i, i < n → RwIn w (l i)) (kx : ∀ i, i < n → RwOk (l i)) : Calls Try.prog 51 #[.slice p n c] w (RetM (fun v Hn => OwnL 79 130 v (counted l n).length ((counted l n).flatMap encR) Hn) w) := by
  refine fn_calls (n := 64) Try.func51 rfl rfl (lb rfl) ?_
  refine cseq ?_
  refine creg ?_
  refine l1 (asg rfl) ?_
  refine lnil ?_
  refine nthen ?_
  refine cseq ?_
  refine creg ?_
  refine l1 (asg rfl) ?_
  refine lnil ?_
  refine nthen ?_
  refine cseq ?_
  refine cseq ?_
  refine creg ?_
  refine l1 (asgi rfl) ?_
  refine lnil ?_
  refine nthen ?_
  refine cblock ?_
  refine cloopI (σ := Nat × Value × List Ent) (fun s => [(0, .slice p n c), (3, s.2.1), (4, .int .i64 (s.1 : Int))]) (fun s => ([] ++ (s.2.2))) (fun s => s.1 ≤ n ∧ OwnL 79 130 s.2.1 (counted l s.1).length ((counted l s.1).flatMap encR) s.2.2) (fun s => n - s.1) (0, .slice none 0 0, []) ⟨Nat.zero_le _, OwnL.nil 79 130⟩ ⟨rfl, rfl, rfl, trivial⟩ (List.Sublist.refl _) ?_
  rintro ⟨i, v3, oe⟩ j hI; replace hI : i ≤ n ∧ OwnL 79 130 v3 (counted l i).length ((counted l i).flatMap encR) oe := hI; obtain ⟨p3, c3, rfl⟩ := hI.2.form
  show WC _ _ _ ((oe)) _ _ (over j [(0, .slice p n c), (3, .slice p3 (counted l i).length c3), (4, .int .i64 (i : Int))])
  have hown := hI.2; have hcl := counted_len l i
  refine cseq ?_
  refine cseq ?_
  refine creg ?_
  refine l1 (mvi rfl) ?_
  refine l1 (mvs rfl) ?_
  refine l1 (lens sl74 rfl rfl) ?_
  refine l1 (lss rfl rfl) ?_
  refine lnil ?_
  refine nthen ?_
  refine cif rfl (fun h1 => ?_) (fun h1 => ?_)
  · have hlt : i < n := by (have := dt h1; omega)
    obtain ⟨b, o, hp, hbl, hm⟩ := hl.at hlt
    refine cskip ?_
    refine nthen ?_
    refine cseq ?_
    refine cblock ?_
    refine cseq ?_
    refine creg ?_
    refine l1 (mvs rfl) ?_
    refine l1 (mvi rfl) ?_
    refine l1 (isp sl74 hp rfl rfl (by omega) (by omega)) ?_
    refine l1 (ldam (vs := encR (l i)) Try.isAgg79 Try.sizeOf79 rfl rfl (fun w' hw => (hm i hlt).kept hw.below hbl)) ?_
    refine l1 (cl (v := .bool (rformedR (l i) && true)) hb49 rfl (mc rfl mn) (fun w' hw => by rw [Bool.and_true]; exact rrowformed_calls (l i) w' ((hx i hlt).keptS hw) (kx i hlt))) ?_
    refine l1 (asgb rfl) ?_
    refine lnil ?_
    refine nthen ?_
    refine cseq ?_
    refine cseq ?_
    refine creg ?_
    refine l1 (asgi rfl) ?_
    refine lnil ?_
    refine nthen ?_
    refine cblock ?_
    refine cloopI (σ := Nat) (fun s => [(0, .slice p n c), (3, .slice p3 (counted l i).length c3), (4, .int .i64 (i : Int)), (5, .bool (rformedR (l i) && ((counted l i).take s).all (difK (l i)))), (6, .int .i64 (s : Int))]) (fun s => ([] ++ (oe))) (fun s => s ≤ (counted l i).length) (fun s => (counted l i).length - s) 0 (Nat.zero_le _) ⟨rfl, rfl, rfl, rfl, rfl, trivial⟩ (List.Sublist.refl _) ?_
    rintro q j hJ; replace hJ : q ≤ (counted l i).length := hJ
    show WC _ _ _ ((oe)) _ _ (over j [(0, .slice p n c), (3, .slice p3 (counted l i).length c3), (4, .int .i64 (i : Int)), (5, .bool (rformedR (l i) && ((counted l i).take q).all (difK (l i)))), (6, .int .i64 (q : Int))])
    refine cseq ?_
    refine cseq ?_
    refine creg ?_
    refine l1 (mvi rfl) ?_
    refine l1 (mvs rfl) ?_
    refine l1 (lens sl74 rfl rfl) ?_
    refine l1 (lss rfl rfl) ?_
    refine lnil ?_
    refine nthen ?_
    refine cif rfl (fun h2 => ?_) (fun h2 => ?_)
    · have hlq : q < (counted l i).length := by (have := dt h2; omega)
      obtain ⟨g, hg, hrow⟩ := own_row hown rfl hlq
      refine cskip ?_
      refine nthen ?_
      refine cseq ?_
      refine cblock ?_
      refine cregq mo (by kernel_rfl) ?_
      refine q1 (mvb rfl) ?_
      refine q1 (mvb rfl) ?_
      refine q1g rfl (gwt rfl) (fun h => mvs rfl) ?_
      refine q1g rfl (gwt rfl) (fun h => mvi rfl) ?_
      refine q1g rfl (gwt rfl) (fun h => isp sl74 hg (gvt h) (gvt h) (by omega) (by omega)) ?_
      refine q1g rfl (gwt rfl) (fun h => fa fa79_0 (gvt h)) ?_
      refine q1g rfl (gwt rfl) (fun h => fa fa37_0 (gvt h)) ?_
      refine q1g rfl (gwt rfl) (fun h => ldm (v := .int .i64 ((counted l i).getD q rz).hd.writer) Try.isAgg3 (gvt h) (fun w' hw => (hrow _ _ _ hw (List.Sublist.refl _)).at (i := 0) rfl)) ?_
      refine q1g rfl (gwt rfl) (fun h => mvs rfl) ?_
      refine q1g rfl (gwt rfl) (fun h => mvi rfl) ?_
      refine q1g rfl (gwt rfl) (fun h => isp sl74 hp (gvt h) (gvt h) (by omega) (by omega)) ?_
      refine q1g rfl (gwt rfl) (fun h => fa fa79_0 (gvt h)) ?_
      refine q1g rfl (gwt rfl) (fun h => fa fa37_0 (gvt h)) ?_
      refine q1g rfl (gwt rfl) (fun h => ldm (v := .int .i64 (l i).hd.writer) Try.isAgg3 (gvt h) (fun w' hw => ((hm i hlt).kept hw.below hbl).at (i := 0) rfl)) ?_
      refine q1g rfl (gwt rfl) (fun h => neq (gvt h) (gvt h)) ?_
      refine q1g rfl (gwt rfl) (fun h => mvb (gvt h)) ?_
      refine q1g rfl (ggf rfl) (fun h => mvs rfl) ?_
      refine q1g rfl (ggf rfl) (fun h => mvi rfl) ?_
      refine q1g rfl (ggf rfl) (fun h => isp sl74 hg (gvt h) (gvt h) (by omega) (by omega)) ?_
      refine q1g rfl (ggf rfl) (fun h => fa fa79_0 (gvt h)) ?_
      refine q1g rfl (ggf rfl) (fun h => fa fa37_1 (gvt h)) ?_
      refine q1g rfl (ggf rfl) (fun h => ldm (v := .int .u64 ((counted l i).getD q rz).hd.seq) Try.isAgg22 (gvt h) (fun w' hw => (hrow _ _ _ hw (List.Sublist.refl _)).at (i := 1) rfl)) ?_
      refine q1g rfl (ggf rfl) (fun h => mvs rfl) ?_
      refine q1g rfl (ggf rfl) (fun h => mvi rfl) ?_
      refine q1g rfl (ggf rfl) (fun h => isp sl74 hp (gvt h) (gvt h) (by omega) (by omega)) ?_
      refine q1g rfl (ggf rfl) (fun h => fa fa79_0 (gvt h)) ?_
      refine q1g rfl (ggf rfl) (fun h => fa fa37_1 (gvt h)) ?_
      refine q1g rfl (ggf rfl) (fun h => ldm (v := .int .u64 (l i).hd.seq) Try.isAgg22 (gvt h) (fun w' hw => ((hm i hlt).kept hw.below hbl).at (i := 1) rfl)) ?_
      refine q1g rfl (ggf rfl) (fun h => neq (gvt h) (gvt h)) ?_
      refine q1g rfl (gwt rfl) (fun h => pk_or (gvt h) rfl (gva h)) ?_
      refine q1 (pk_and rfl rfl rfl) ?_
      refine q1 (asgb rfl) ?_
      refine qnil ?_
      refine nblkN ?_
      refine nthen ?_
      refine creg ?_
      refine l1 (mvi rfl) ?_
      first | refine l1 (addn rfl rfl (ri (by omega) (by omega))) ?_ | refine l1 (add rfl rfl) ?_
      refine l1 (asgi rfl) ?_
      refine lnil ?_
      exact nI (q + 1) (by show q + 1 ≤ (counted l i).length; omega) (by show (counted l i).length - (q + 1) < (counted l i).length - q; omega) ⟨rfl, rfl, rfl, congrArg Value.bool (all_succ hlq), rfl, trivial⟩ (List.Sublist.refl _)
    · have hqe : q = (counted l i).length := by (have := df h2; omega)
      have htk : (rformedR (l i) && ((counted l i).take q).all (difK (l i))) = (rformedR (l i) && (counted l i).all (difK (l i))) := by rw [hqe, List.take_length]
      refine cexit ?_
      refine nthenE ?_
      refine nIE ?_
      refine nblkE ?_
      refine nthen ?_
      refine cseq ?_
      refine creg ?_
      refine l1 (mvb rfl) ?_
      refine lnil ?_
      refine nthen ?_
      refine cif rfl (fun h3 => ?_) (fun h3 => ?_)
      · have hall := h3
        rw [htk] at hall
        refine creg ?_
        refine l1 (mvs rfl) ?_
        refine l1 (mvs rfl) ?_
        refine l1 (mvi rfl) ?_
        refine l1 (isp sl74 hp rfl rfl (by omega) (by omega)) ?_
        refine l1 (ldam (vs := encR (l i)) Try.isAgg79 Try.sizeOf79 rfl rfl (fun w' hw => (hm i hlt).kept hw.below hbl)) ?_
        refine lbs Try.underlying74 rfl (bs74 (l i)) (fun b1 => ?_)
        refine wl_perm (ins_perm 0 _ _) ?_
        refine lapp [_] [] oe el74 (by rw [List.append_nil]; rfl) rfl hown rfl (news := encR (l i)) rfl (fun w' hw => by have := hw.mem (i := 0) rfl 0; simpa using this) (encR_one _) (by decide) (by unfold maxLen; omega) (by omega) ?_
        intro g' cap oe' hown'
        rw [List.append_nil]
        refine l1 (asg rfl) ?_
        refine lnil ?_
        refine nblkN ?_
        refine nthen ?_
        refine creg ?_
        refine l1 (mvi rfl) ?_
        first | refine l1 (addn rfl rfl (ri (by omega) (by omega))) ?_ | refine l1 (add rfl rfl) ?_
        refine l1 (asgi rfl) ?_
        refine lnil ?_
        exact nI (i + 1, .slice (some ⟨g', 0, none⟩) ((counted l i).length + 1) cap, oe') ⟨by omega, by rw [cnt_yes (kx i hlt) hall, List.flatMap_append, List.length_append]; simpa using hown'⟩ (by show n - (i + 1) < n - i; omega) ⟨rfl, rfl, rfl, trivial⟩ (List.Sublist.cons _ (List.Sublist.refl _))
      · have hall := h3
        rw [htk] at hall
        refine cskip ?_
        refine nblkN ?_
        refine nthen ?_
        refine creg ?_
        refine l1 (mvi rfl) ?_
        first | refine l1 (addn rfl rfl (ri (by omega) (by omega))) ?_ | refine l1 (add rfl rfl) ?_
        refine l1 (asgi rfl) ?_
        refine lnil ?_
        exact nI (i + 1, .slice p3 (counted l i).length c3, oe) ⟨by omega, by rw [cnt_no (kx i hlt) hall]; exact hown⟩ (by show n - (i + 1) < n - i; omega) ⟨rfl, rfl, rfl, trivial⟩ (List.Sublist.refl _)
  · have hin : i = n := by (have := df h1; omega)
    refine cexit ?_
    refine nthenE ?_
    refine nIE ?_
    refine nblkE ?_
    refine nthen ?_
    refine cseq ?_
    refine creg ?_
    refine l1 (mvs rfl) ?_
    refine l1 (asg rfl) ?_
    refine lnil ?_
    refine nthen ?_
    refine cret ?_
    exact finM (.slice p3 (counted l i).length c3) oe (rv1 rfl (rvt rfl)) ⟨oe, List.Perm.refl _, List.Sublist.refl _⟩ (by rw [← hin]; exact hown)
end Go.Proofs.Ytkdbjhlkahkobaa
/- the latest by indexes, as the reference finds it -/
namespace Go.Proofs.Ytkdbjhlkahkobaa
open Jal Go.RowKit
set_option maxRecDepth 100000
theorem eqA_comm (n : Nat) (a b : Nat → Int) : eqA n a b = eqA n b a := by
  rw [Bool.eq_iff_iff]
  exact ⟨eqA_symm, eqA_symm⟩
/-- a: the index of the latest of kind q among the first i rows of an item, or less than none -/
def IxOk (q : Rw → Bool) (C : List Rw) (tok : Nat → Int) (i : Nat) (a : Int) : Prop :=
  (a < 0 ∧ (latR q (ofRows tok (C.take i))).2 = false) ∨ ∃ k : Nat, a = (k : Int) ∧ k < i ∧ latR q (ofRows tok (C.take i)) = (C.getD k rz, true)
def updB (q : Rw → Bool) (C : List Rw) (i : Nat) (a : Int) : Bool := q (C.getD i rz) && (decide (a < 0) || rlaterH (C.getD i rz).hd (C.getD a.toNat rz).hd)
theorem ofRows_succ {tok : Nat → Int} {C : List Rw} {i : Nat} (hi : i < C.length) : ofRows tok (C.take (i + 1)) = bif eqA 16 tok (C.getD i rz).hd.item then ofRows tok (C.take i) ++ [C.getD i rz] else ofRows tok (C.take i) := by
  rw [take_succR hi]
  unfold ofRows
  rw [List.filter_append, List.filter_cons, List.filter_nil]
  cases eqA 16 tok (C.getD i rz).hd.item with
  | true => rfl
  | false => exact List.append_nil _
theorem IxOk.start (q : Rw → Bool) (C : List Rw) (tok : Nat → Int) : IxOk q C tok 0 (-1) := .inl ⟨by decide, rfl⟩
theorem IxOk.skip {q : Rw → Bool} {C : List Rw} {tok : Nat → Int} {i : Nat} {a : Int} (h : IxOk q C tok i a) (hi : i < C.length) (he : eqA 16 tok (C.getD i rz).hd.item = false) : IxOk q C tok (i + 1) a := by
  unfold IxOk at *
  rw [ofRows_succ hi, he]
  rcases h with h | ⟨k, h1, h2, h3⟩
  · exact .inl h
  · exact .inr ⟨k, h1, by omega, h3⟩
theorem IxOk.yes {q : Rw → Bool} {C : List Rw} {tok : Nat → Int} {i : Nat} {a : Int} (h : IxOk q C tok i a) (hi : i < C.length) (he : eqA 16 tok (C.getD i rz).hd.item = true) (hu : updB q C i a = true) : IxOk q C tok (i + 1) (i : Int) := by
  unfold updB at hu
  rw [Bool.and_eq_true] at hu
  refine .inr ⟨i, rfl, by omega, ?_⟩
  rw [ofRows_succ hi, he]
  show latR q (_ ++ [_]) = _
  rw [lat_snoc, hu.1]
  rcases h with ⟨_, h2⟩ | ⟨k, h1, _, h3⟩
  · rw [h2]; rfl
  · subst h1
    rw [h3]
    have h4 := hu.2
    rw [decide_eq_false (by omega), Bool.false_or, rlater_eq] at h4
    have h5 : decide (cmpH (C.getD i rz).hd (C.getD k rz).hd > 0) = true := h4
    show (bif true then (bif decide (cmpH (C.getD i rz).hd (C.getD k rz).hd > 0) then C.getD i rz else C.getD k rz) else C.getD i rz, true) = _
    rw [h5]; rfl
theorem IxOk.no {q : Rw → Bool} {C : List Rw} {tok : Nat → Int} {i : Nat} {a : Int} (h : IxOk q C tok i a) (hi : i < C.length) (he : eqA 16 tok (C.getD i rz).hd.item = true) (hu : updB q C i a = false) : IxOk q C tok (i + 1) a := by
  unfold updB at hu
  unfold IxOk at *
  rw [ofRows_succ hi, he]
  show (a < 0 ∧ (latR q (_ ++ [_])).2 = false) ∨ ∃ k : Nat, a = (k : Int) ∧ k < i + 1 ∧ latR q (_ ++ [_]) = _
  rw [lat_snoc]
  cases hq : q (C.getD i rz) with
  | false =>
    rcases h with h | ⟨k, h1, h2, h3⟩
    · exact .inl h
    · exact .inr ⟨k, h1, by omega, h3⟩
  | true =>
    rw [hq, Bool.true_and, Bool.or_eq_false_iff] at hu
    rcases h with ⟨h1, _⟩ | ⟨k, h1, h2, h3⟩
    · exact absurd h1 (of_decide_eq_false hu.1)
    · subst h1
      refine .inr ⟨k, rfl, by omega, ?_⟩
      have h4 := hu.2
      rw [rlater_eq] at h4
      have h5 : decide (cmpH (C.getD i rz).hd (C.getD k rz).hd > 0) = false := h4
      rw [h3]
      show (bif true then (bif decide (cmpH (C.getD i rz).hd (C.getD k rz).hd > 0) then C.getD i rz else C.getD k rz) else C.getD i rz, true) = _
      rw [h5]; rfl
def oI (tok : Nat → Int) (C : List Rw) : It × Bool := bif decide (((ofRows tok C).length : Int) = 0) then (iz, false) else (madeI tok (ofRows tok C), true)
theorem oI_of (tok : Nat → Int) (l : Nat → Rw) (n : Nat) : oI tok (counted l n) = ofI tok l n := rfl
theorem IxOk.end {q : Rw → Bool} {C : List Rw} {tok : Nat → Int} {i : Nat} {a : Int} (h : IxOk q C tok i a) (hi : i = C.length) : (a < 0 ∧ (latR q (ofRows tok C)).2 = false) ∨ ∃ k : Nat, a = (k : Int) ∧ k < C.length ∧ latR q (ofRows tok C) = (C.getD k rz, true) := by
  subst hi
  unfold IxOk at h
  rwa [List.take_length] at h
theorem oI_none {tok : Nat → Int} {C : List Rw} (h : (latR anyR (ofRows tok C)).2 = false) : oI tok C = (iz, false) := by
  rw [any_2] at h
  unfold oI
  rw [show decide (((ofRows tok C).length : Int) = 0) = true by simpa using h]; rfl
theorem oI_some {tok : Nat → Int} {C : List Rw} (h : (latR anyR (ofRows tok C)).2 = true) : oI tok C = (madeI tok (ofRows tok C), true) := by
  rw [any_2] at h
  unfold oI
  rw [show decide (((ofRows tok C).length : Int) = 0) = false by simpa using h]; rfl
end Go.Proofs.Ytkdbjhlkahkobaa
