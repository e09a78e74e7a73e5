/- walks, printed by a program of ours -/
import Derived.Test.YtkdbjhlkahkobaaTy
import Derived.Test.YtkdbjhlkahkobaaDef
import Derived.Test.YtkdbjhlkahkobaaMor2
import Derived.Test.YtkdbjhlkahkobaaMem4
namespace Go.Proofs.Ytkdbjhlkahkobaa
open Jal Go.RowKit
set_option maxRecDepth 100000
theorem core_ok {a b : Hd} (h : core a = core b) (k : HdOk b) : HdOk a := by
  have k2 : HdOk (core b) := hdOk_retok k none 0
  rw [← h] at k2
  exact hdOk_retok k2 a.tp a.tc
theorem hz_ok : HdOk hz := ⟨by unfold I64; decide, by unfold U64; decide, by unfold I64; decide, by unfold U64; decide, by decide, fun _ _ => by show U64 0; unfold U64; decide, by unfold I64; decide, fun i hi => absurd hi (Nat.not_lt_zero i), fun _ _ => by show (0 : Int) ≤ 0 ∧ (0 : Int) ≤ 255; decide, fun _ _ => by show (0 : Int) ≤ 0 ∧ (0 : Int) ≤ 255; decide, fun _ _ => by show (0 : Int) ≤ 0 ∧ (0 : Int) ≤ 255; decide, fun _ _ => by show (0 : Int) ≤ 0 ∧ (0 : Int) ≤ 255; decide⟩
theorem coreI_f {a b : It} (h : coreI a = coreI b) : core a.hd = core b.hd ∧ a.known = b.known ∧ a.alive = b.alive ∧ a.name = b.name ∧ a.value = b.value :=
  ⟨show (coreI a).hd = (coreI b).hd by rw [h], show (coreI a).known = (coreI b).known by rw [h], show (coreI a).alive = (coreI b).alive by rw [h], show (coreI a).name = (coreI b).name by rw [h], show (coreI a).value = (coreI b).value by rw [h]⟩
theorem of_ok {tok : Nat → Int} {l : Nat → Rw} {n : Nat} (k : ∀ i, i < n → RwOk (l i)) : HdOk (ofI tok l n).1.hd := by
  unfold ofI
  cases decide (((ofRows tok (counted l n)).length : Int) = 0) with
  | true => exact hz_ok
  | false =>
    show HdOk (madeI tok (ofRows tok (counted l n))).hd
    rw [(made_f tok _).1, ← getL_rows (ofRows tok (counted l n))]
    refine lat_all (Pr := fun r => HdOk r.hd) hz_ok (fun i hi => ?_)
    obtain ⟨j, h1, h2⟩ := ofRows_get hi
    rw [h2]; exact (k j h1).h

set_option maxHeartbeats 4000000 in
theorem more_law (w : World) (p : Option Addr) (n c : Nat) (l : Nat → Rw) (hn : (n : Int) ≤ 9223372036854775807) (hl : Sl w p n 130 (fun i => encR (l i))) (hx : ∀ i, i < n → RwIn w (l i)) (kx : ∀ i, i < n → RwOk (l i)) (x : Rw) (hxx : RwIn w x) (kxx : RwOk x) : Calls Try.prog 14 #[.slice p n c, .agg (encR x).toArray] w (Ret (.bool true) w) := by
  refine fn_calls (n := 169) Try.func14 rfl rfl (lb rfl) ?_
  refine cseq ?_
  refine creg ?_
  refine lbxa rfl (fun b1 => ?_)
  refine l1 (asgb rfl) ?_
  refine lnil ?_
  refine nthen ?_
  refine cseq ?_
  refine cseq ?_
  refine creg ?_
  refine l1 (cl hb29 rfl mn (fun w hw => awake18_calls w)) ?_
  refine l1 (nt rfl) ?_
  refine l1 (mvb rfl) ?_
  refine l1g rfl (gwf rfl) (fun h => mvs rfl) ?_
  refine l1g rfl (gwf rfl) (fun h => cl hb48 rfl (mc (gvt h) (mc rfl mn)) (fun w hw => fewrows_calls w p n c l 25 hn (Sl.keptS hl hw) (fun i hi => (hx i hi).keptS hw) kx)) ?_
  refine l1g rfl (gwf rfl) (fun h => nt (gvt h)) ?_
  refine l1 (pk_or rfl rfl rfl) ?_
  refine l1 (mvb rfl) ?_
  refine l1g rfl (gwf rfl) (fun h => ldw 0 Try.isAgg79 Try.sizeOf79 rfl rfl rfl) ?_
  refine lbsg rfl (gwf rfl) (fun h => by first | rfl | (show [(0, ev _ _ (Operand.tmp 18))] = _; exact congrArg (fun v => [(0, v)]) (gvt h))) (bs74 x) (fun b2 E2 hE2 => ?_)
  refine l1g rfl (gwf rfl) (fun h => cl (v := .bool (fewR (fun _ => x) 1 1)) hb48 rfl (mc (gvt h) (mc rfl mn)) (fun w' hw => fewrows_calls w' (some ⟨b2, 0, none⟩) 1 1 (fun _ => x) 1 (by decide) (by rw [hE2 h] at hw; exact SlIn.sl (.inr ⟨⟨b2, encR x, 79⟩, by simp, rfl, fun i hi j v hv => by (obtain rfl : i = 0 := by omega); simpa using hv⟩) hw) (fun i hi => hxx.keptS hw) (fun i hi => kxx))) ?_
  refine l1g rfl (gwf rfl) (fun h => nt (gvt h)) ?_
  refine l1 (pk_or rfl rfl rfl) ?_
  refine l1 (mvb rfl) ?_
  refine l1g rfl (gwf rfl) (fun h => ldw 0 Try.isAgg79 Try.sizeOf79 rfl rfl rfl) ?_
  refine l1g rfl (gwf rfl) (fun h => cl hb49 rfl (mc (gvt h) mn) (fun w hw => rrowformed_calls x w (hxx.keptS hw) kxx)) ?_
  refine l1g rfl (gwf rfl) (fun h => nt (gvt h)) ?_
  refine l1 (pk_or rfl rfl rfl) ?_
  refine lnil ?_
  refine nthen ?_
  refine cif rfl (fun h1 => ?_) (fun h1 => ?_)
  · skip
    refine cseq ?_
    refine creg ?_
    refine l1 (cl hb29 rfl mn (fun w hw => awake18_calls w)) ?_
    refine l1 (asgb rfl) ?_
    refine lnil ?_
    refine nthen ?_
    refine cret ?_
    refine nthenR ?_
    exact fin1b rfl rfl (rfl)
  · have hF1 : fewR l n 25 = true := by (simp at h1; exact h1.1.1)
    have hF2 : fewR (fun _ => x) 1 1 = true := by (simp at h1; exact h1.1.2)
    have hF3 : rformedR x = true := by (simp at h1; exact h1.2)
    have hn25 := (fewR_row hF1 (by decide)).1
    have hfx : ∀ i, i < n → (l i).hd.tn ≤ 20 ∧ (l i).ch.gn ≤ 20 := fun i hi => fewRow_le ((fewR_row hF1 (by decide)).2 i hi)
    have hfxx : x.hd.tn ≤ 20 ∧ x.ch.gn ≤ 20 := fewRow_le ((fewR_row hF2 (by decide)).2 0 (by decide))
    refine cskip ?_
    refine nthen ?_
    refine cseq ?_
    refine cseq ?_
    refine creg ?_
    refine l1 (asgi rfl) ?_
    refine lnil ?_
    refine nthen ?_
    refine cblock ?_
    refine cloopI (σ := Nat) (fun s => [(0, .slice p n c), (3, .pointer (some ⟨b1, 0, none⟩)), (5, .int .i64 (s : Int))]) (fun s => [⟨b1, encR x, 79⟩]) (fun s => s ≤ n ∧ ∀ j, j < s → (decide ((l j).hd.writer = x.hd.writer) && decide ((l j).hd.seq = x.hd.seq)) = false) (fun s => n - s) 0 ⟨Nat.zero_le _, fun j hj => by omega⟩ ⟨rfl, rfl, rfl, trivial⟩ (List.Sublist.cons_cons _ (List.nil_sublist _)) ?_
    rintro i j hI
    show WC _ _ _ ([⟨b1, encR x, 79⟩]) _ _ (over j [(0, .slice p n c), (3, .pointer (some ⟨b1, 0, none⟩)), (5, .int .i64 (i : Int))])
    replace hI : i ≤ n ∧ ∀ j, j < i → (decide ((l j).hd.writer = x.hd.writer) && decide ((l j).hd.seq = x.hd.seq)) = false := hI
    refine cseq ?_
    refine cseq ?_
    refine creg ?_
    refine l1 (mvi rfl) ?_
    refine l1 (mvs rfl) ?_
    refine l1 (lens sl74 rfl rfl) ?_
    refine l1 (lss rfl rfl) ?_
    refine lnil ?_
    refine nthen ?_
    refine cif rfl (fun h2 => ?_) (fun h2 => ?_)
    · have hlt : i < n := by (have := dt h2; omega)
      obtain ⟨b, o, hp, hbl, hm⟩ := hl.at hlt
      refine cskip ?_
      refine nthen ?_
      refine cseq ?_
      refine cblock ?_
      refine cseq ?_
      refine cregq mo (by kernel_rfl) ?_
      refine q1 (mvs rfl) ?_
      refine q1 (mvi rfl) ?_
      refine q1 (isp sl74 hp rfl rfl (by omega) (by omega)) ?_
      refine q1 (fa fa79_0 rfl) ?_
      refine q1 (fa fa37_0 rfl) ?_
      refine q1 (ldm (v := .int .i64 (l i).hd.writer) Try.isAgg3 rfl (fun w' hw => ((hm i hlt).kept hw.below hbl).at (i := 0) rfl)) ?_
      refine q1 (fa fa79_0 rfl) ?_
      refine q1 (fa fa37_0 rfl) ?_
      refine q1 (ldc 0 Try.isAgg3 rfl rfl rfl) ?_
      refine q1 (eql rfl rfl) ?_
      refine q1 (mvb rfl) ?_
      refine q1g rfl (gwt rfl) (fun h => mvs rfl) ?_
      refine q1g rfl (gwt rfl) (fun h => mvi rfl) ?_
      refine q1g rfl (gwt rfl) (fun h => isp sl74 hp (gvt h) (gvt h) (by omega) (by omega)) ?_
      refine q1g rfl (gwt rfl) (fun h => fa fa79_0 (gvt h)) ?_
      refine q1g rfl (gwt rfl) (fun h => fa fa37_1 (gvt h)) ?_
      refine q1g rfl (gwt rfl) (fun h => ldm (v := .int .u64 (l i).hd.seq) Try.isAgg22 (gvt h) (fun w' hw => ((hm i hlt).kept hw.below hbl).at (i := 1) rfl)) ?_
      refine q1g rfl (gwt rfl) (fun h => fa fa79_0 rfl) ?_
      refine q1g rfl (gwt rfl) (fun h => fa fa37_1 (gvt h)) ?_
      refine q1g rfl (gwt rfl) (fun h => ldc 0 Try.isAgg22 rfl (gvt h) rfl) ?_
      refine q1g rfl (gwt rfl) (fun h => eql (gvt h) (gvt h)) ?_
      refine q1 (pk_and rfl rfl rfl) ?_
      refine qnil ?_
      refine nthen ?_
      refine cif rfl (fun h3 => ?_) (fun h3 => ?_)
      · skip
        refine cseq ?_
        refine creg ?_
        refine l1 (asgb rfl) ?_
        refine lnil ?_
        refine nthen ?_
        refine cret ?_
        refine nblkR ?_
        refine nthenR ?_
        refine nIR ?_
        refine nblkR ?_
        refine nthenR ?_
        exact fin1b rfl rfl (rfl)
      · skip
        refine cskip ?_
        refine nblkN ?_
        refine nthen ?_
        refine creg ?_
        refine l1 (mvi rfl) ?_
        first | refine l1 (addn rfl rfl (ri (by omega) (by omega))) ?_ | refine l1 (add rfl rfl) ?_
        refine l1 (asgi rfl) ?_
        refine lnil ?_
        exact nI (i + 1) ⟨by omega, fun j hj => (Nat.lt_succ_iff_lt_or_eq.1 hj).elim (fun h => hI.2 j h) (fun h => by subst h; exact h3)⟩ (by show n - (i + 1) < n - i; omega) ⟨rfl, rfl, rfl, trivial⟩ (List.Sublist.refl _)
    · have hkey : ∀ j, j < n → (decide ((l j).hd.writer = x.hd.writer) && decide ((l j).hd.seq = x.hd.seq)) = false := fun j hj => hI.2 j (by have := df h2; omega)
      refine cexit ?_
      refine nthenE ?_
      refine nIE ?_
      refine nblkE ?_
      refine nthen ?_
      refine cseq ?_
      refine creg ?_
      refine l1 (mvs rfl) ?_
      refine l1 (fa fa79_0 rfl) ?_
      refine l1 (fa fa37_6 rfl) ?_
      refine l1 (lda 0 Try.isAgg34 Try.sizeOf34 rfl rfl (encR_item _) rfl) ?_
      refine lclm hb50 rfl (mc rfl (mc rfl mn)) (fun w' hw => of_calls w' x.hd.item p n c l (by omega) (Sl.keptS hl hw) (fun i hi => (hx i hi).keptS hw) kx hfx) ?_
      rintro v62 Hn ⟨I, rfl, hI1, hIn⟩
      refine l1 (mv rfl) ?_
      refine l1 (ext (vs := [.agg (encI I).toArray, .bool (ofI x.hd.item l n).2]) rfl rfl) ?_
      refine l1 (ext (vs := [.agg (encI I).toArray, .bool (ofI x.hd.item l n).2]) rfl rfl) ?_
      refine lal (zs := encI iz) Try.zeroValue83 rfl (fun b2 => ?_)
      refine wl_perm (ins_perm 1 _ _) ?_
      refine lstw 1 rfl rfl rfl Try.sizeOf83 rfl rfl rfl ?_
      refine l1 (asgb rfl) ?_
      refine lnil ?_
      refine nthen ?_
      refine cseq ?_
      refine ccut (Y := Nat × It × List Ent) (fun y => ⟨b1, encR x, 79⟩ :: ⟨b2, encI I, 83⟩ :: ⟨y.1, encI y.2.1, 83⟩ :: (Hn ++ y.2.2)) (fun y => [(3, .pointer (some ⟨b1, 0, none⟩)), (6, .pointer (some ⟨b2, 0, none⟩)), (7, .bool (ofI x.hd.item l n).2), (8, .pointer (some ⟨y.1, 0, none⟩)), (9, .bool (ofI x.hd.item (lx l n x) (n + 1)).2)]) (fun y => coreI y.2.1 = coreI (ofI x.hd.item (lx l n x) (n + 1)).1 ∧ ItIn y.2.2 y.2.1) ?_ ?_
      · refine cregH (fun (_ : Unit) => ⟨b1, encR x, 79⟩ :: []) 16 mo rfl ?_
        refine hq1 1 rfl (by kernel_rfl) (by kernel_rfl) (by kernel_rfl) (fun c a w h => h) (.inr ⟨_, rfl⟩) (fun w hw => ⟨(), hw.sub (List.Sublist.cons_cons _ (List.nil_sublist _))⟩) (fun T => mvs rfl) ?_
        refine hq1 3 rfl (by kernel_rfl) (by kernel_rfl) (by kernel_rfl) (fun c a w h => h) (.inl ⟨_, rfl⟩) (fun w hw => ⟨(), hw.sub (List.Sublist.cons_cons _ (List.nil_sublist _))⟩) (fun T => ldw 0 Try.isAgg79 Try.sizeOf79 rfl rfl rfl) ?_
        refine hq1 6 rfl (by kernel_rfl) (by kernel_rfl) (by kernel_rfl) (fun c a w h => h) (.inl ⟨_, rfl⟩) (fun w hw => ⟨(), hw.sub (List.Sublist.cons_cons _ (List.nil_sublist _))⟩) (fun T => fa fa79_0 rfl) ?_
        refine hq1 7 rfl (by kernel_rfl) (by kernel_rfl) (by kernel_rfl) (fun c a w h => h) (.inl ⟨_, rfl⟩) (fun w hw => ⟨(), hw.sub (List.Sublist.cons_cons _ (List.nil_sublist _))⟩) (fun T => fa fa37_6 rfl) ?_
        refine hq1 8 rfl (by kernel_rfl) (by kernel_rfl) (by kernel_rfl) (fun c a w h => h) (.inl ⟨_, rfl⟩) (fun w hw => ⟨(), hw.sub (List.Sublist.cons_cons _ (List.nil_sublist _))⟩) (fun T => lda 0 Try.isAgg34 Try.sizeOf34 rfl rfl (encR_item _) rfl) ?_
        refine hem3 0 4 13 (by kernel_rfl) rfl rfl rfl ?_ ?_ ?_
        · skip
          refine lbs Try.underlying74 rfl (bs74z) (fun b3 => ?_)
          refine wl_perm (ins_perm 2 _ _) ?_
          refine hnil (fun w hw => ⟨(), hw.sub (List.Sublist.cons_cons _ (List.nil_sublist _))⟩) ?_
          refine hem3 2 4 13 (by kernel_rfl) rfl rfl rfl ?_ ?_ ?_
          · skip
            refine lappx [_, _] _ [_] (xs := []) (news := (rowsL l n).flatMap encR) el74 rfl rfl ⟨rfl, .inr ⟨_, 0, [], rfl, rfl, Nat.le_refl _, by decide, rfl, rfl⟩⟩ rfl (by rw [flatM_len encR_len, rowsL_len]) (fun h0 => by obtain ⟨b, o, hp, hbl, hm⟩ := hl.at h0; exact ⟨_, hp, fun w' hw => by rw [rowsL_flat]; exact mem_flat (by decide) (fun i => rfl) (fun i hi => (hm i hi).kept hw.below hbl)⟩) (fun u hu => by obtain ⟨r, _, hr⟩ := List.mem_flatMap.1 hu; exact encR_one r u hr) (by unfold maxLen; omega) (by omega) ?_
            intro g1 cap1 oe1 hown1
            rw [List.nil_append] at hown1
            obtain ⟨cur1, rfl⟩ := hown1.blk
            refine hnil (fun w hw => ⟨(), hw.sub (List.Sublist.cons_cons _ (List.nil_sublist _))⟩) ?_
            refine hem2 4 13 (by kernel_rfl) rfl rfl ?_ ?_
            · skip
              refine lbs Try.underlying74 rfl (bs74 x) (fun b4 => ?_)
              refine wl_perm (ins_perm 3 _ _) ?_
              refine hnil (fun w hw => ⟨(), hw.sub (List.Sublist.cons_cons _ (List.nil_sublist _))⟩) ?_
              refine hem2 5 13 (by kernel_rfl) rfl rfl ?_ ?_
              · skip
                refine lapp [_, _] _ [_] el74 rfl rfl hown1 rfl (news := encR x) rfl (fun w' hw => by have := hw.mem (i := 3) rfl 0; simpa using this) (encR_one _) (by decide) (by unfold maxLen; omega) (by omega) ?_
                intro g2 cap2 oe2 hown2
                obtain ⟨cur2, rfl⟩ := hown2.blk
                have hown3 : OwnL 79 130 (.slice (some ⟨g2, 0, none⟩) (n + 1) cap2) (n + 1) ((rowsL (lx l n x) (n + 1)).flatMap encR) [⟨g2, cur2, 79⟩] := by rw [rowsL_lx, List.flatMap_append]; simpa using hown2
                refine hnil (fun w hw => ⟨(), hw.sub (List.Sublist.cons_cons _ (List.nil_sublist _))⟩) ?_
                refine hem2 9 13 (by kernel_rfl) rfl rfl ?_ ?_
                · skip
                  refine lclm hb50 rfl (mc (show _ = Value.slice (some ⟨g2, 0, none⟩) (n + 1) cap2 by first | rfl | (simp only [Nat.zero_add]; rfl)) (mc rfl mn)) (fun w' hw => of_calls w' x.hd.item (some ⟨g2, 0, none⟩) (n + 1) cap2 (lx l n x) (by omega) (SlIn.sl ((hown3.slInL (fun a => rfl) (fun i hi => ⟨_, rowsL_get hi, rfl⟩)).mono (fun e he => by obtain rfl := List.mem_singleton.1 he; simp)) hw) (lx_all (fun i hi => (hx i hi).keptS hw) (hxx.keptS hw)) (lx_all kx kxx) (lx_all (Pr := fun r => r.hd.tn ≤ 20 ∧ r.ch.gn ≤ 20) hfx hfxx)) ?_
                  rintro v75 Hn2 ⟨I2, rfl, hI2, hIn2⟩
                  refine wl_tail 4 ?_
                  refine hnil (fun w hw => ⟨(), hw.sub (List.Sublist.cons_cons _ (List.nil_sublist _))⟩) ?_
                  refine hq1 10 rfl (by kernel_rfl) (by kernel_rfl) (by kernel_rfl) (fun c a w h => h) (.inr ⟨_, rfl⟩) (fun w hw => ⟨(), hw.sub (List.Sublist.cons_cons _ (List.nil_sublist _))⟩) (fun T => mv rfl) ?_
                  refine hq1 11 rfl (by kernel_rfl) (by kernel_rfl) (by kernel_rfl) (fun c a w h => h) (.inl ⟨_, rfl⟩) (fun w hw => ⟨(), hw.sub (List.Sublist.cons_cons _ (List.nil_sublist _))⟩) (fun T => ext (vs := [.agg (encI I2).toArray, .bool (ofI x.hd.item (lx l n x) (n + 1)).2]) rfl rfl) ?_
                  refine hq1 12 rfl (by kernel_rfl) (by kernel_rfl) (by kernel_rfl) (fun c a w h => h) (.inl ⟨_, rfl⟩) (fun w hw => ⟨(), hw.sub (List.Sublist.cons_cons _ (List.nil_sublist _))⟩) (fun T => ext (vs := [.agg (encI I2).toArray, .bool (ofI x.hd.item (lx l n x) (n + 1)).2]) rfl rfl) ?_
                  refine he 13 (by kernel_rfl) rfl ?_
                  refine lal (zs := encI iz) Try.zeroValue83 rfl (fun b5 => ?_)
                  refine wl_perm (ins_perm 4 _ _) ?_
                  refine hnil (fun w hw => ⟨(), hw.sub (List.Sublist.cons_cons _ (List.nil_sublist _))⟩) ?_
                  refine he 14 (by kernel_rfl) rfl ?_
                  refine lstw 4 rfl rfl rfl Try.sizeOf83 rfl rfl rfl ?_
                  refine hnil (fun w hw => ⟨(), hw.sub (List.Sublist.cons_cons _ (List.nil_sublist _))⟩) ?_
                  refine hq1 15 rfl (by kernel_rfl) (by kernel_rfl) (by kernel_rfl) (fun c a w h => h) (.inr ⟨_, rfl⟩) (fun w hw => ⟨(), hw.sub (List.Sublist.cons_cons _ (List.nil_sublist _))⟩) (fun T => asgb rfl) ?_
                  refine hend (by kernel_rfl) ?_
                  exact nCut (b5, I2, Hn2) ⟨hI2, hIn2⟩ ⟨rfl, rfl, rfl, rfl, rfl, trivial⟩ ⟨_, List.Perm.refl _, List.Sublist.cons_cons _ (List.Sublist.cons_cons _ (List.Sublist.cons _ (List.Sublist.cons _ (List.Sublist.cons_cons _ (List.Sublist.refl _)))))⟩
                · skip
                  refine lal (zs := encI iz) Try.zeroValue83 rfl (fun b6 => ?_)
                  refine wl_perm (ins_perm 4 _ _) ?_
                  refine hnil (fun w hw => ⟨(), hw.sub (List.Sublist.cons_cons _ (List.nil_sublist _))⟩) ?_
                  refine he 9 (by kernel_rfl) rfl ?_
                  refine lclm hb50 rfl (mc (show _ = Value.slice (some ⟨g2, 0, none⟩) (n + 1) cap2 by first | rfl | (simp only [Nat.zero_add]; rfl)) (mc rfl mn)) (fun w' hw => of_calls w' x.hd.item (some ⟨g2, 0, none⟩) (n + 1) cap2 (lx l n x) (by omega) (SlIn.sl ((hown3.slInL (fun a => rfl) (fun i hi => ⟨_, rowsL_get hi, rfl⟩)).mono (fun e he => by obtain rfl := List.mem_singleton.1 he; simp)) hw) (lx_all (fun i hi => (hx i hi).keptS hw) (hxx.keptS hw)) (lx_all kx kxx) (lx_all (Pr := fun r => r.hd.tn ≤ 20 ∧ r.ch.gn ≤ 20) hfx hfxx)) ?_
                  rintro v75 Hn2 ⟨I2, rfl, hI2, hIn2⟩
                  refine wl_tail 5 ?_
                  refine hnil (fun w hw => ⟨(), hw.sub (List.Sublist.cons_cons _ (List.nil_sublist _))⟩) ?_
                  refine hq1 10 rfl (by kernel_rfl) (by kernel_rfl) (by kernel_rfl) (fun c a w h => h) (.inr ⟨_, rfl⟩) (fun w hw => ⟨(), hw.sub (List.Sublist.cons_cons _ (List.nil_sublist _))⟩) (fun T => mv rfl) ?_
                  refine hq1 11 rfl (by kernel_rfl) (by kernel_rfl) (by kernel_rfl) (fun c a w h => h) (.inl ⟨_, rfl⟩) (fun w hw => ⟨(), hw.sub (List.Sublist.cons_cons _ (List.nil_sublist _))⟩) (fun T => ext (vs := [.agg (encI I2).toArray, .bool (ofI x.hd.item (lx l n x) (n + 1)).2]) rfl rfl) ?_
                  refine hq1 12 rfl (by kernel_rfl) (by kernel_rfl) (by kernel_rfl) (fun c a w h => h) (.inl ⟨_, rfl⟩) (fun w hw => ⟨(), hw.sub (List.Sublist.cons_cons _ (List.nil_sublist _))⟩) (fun T => ext (vs := [.agg (encI I2).toArray, .bool (ofI x.hd.item (lx l n x) (n + 1)).2]) rfl rfl) ?_
                  refine he 14 (by kernel_rfl) rfl ?_
                  refine lstw 4 rfl rfl rfl Try.sizeOf83 rfl rfl rfl ?_
                  refine hnil (fun w hw => ⟨(), hw.sub (List.Sublist.cons_cons _ (List.nil_sublist _))⟩) ?_
                  refine hq1 15 rfl (by kernel_rfl) (by kernel_rfl) (by kernel_rfl) (fun c a w h => h) (.inr ⟨_, rfl⟩) (fun w hw => ⟨(), hw.sub (List.Sublist.cons_cons _ (List.nil_sublist _))⟩) (fun T => asgb rfl) ?_
                  refine hend (by kernel_rfl) ?_
                  exact nCut (b6, I2, Hn2) ⟨hI2, hIn2⟩ ⟨rfl, rfl, rfl, rfl, rfl, trivial⟩ ⟨_, List.Perm.refl _, List.Sublist.cons_cons _ (List.Sublist.cons_cons _ (List.Sublist.cons _ (List.Sublist.cons _ (List.Sublist.cons_cons _ (List.Sublist.refl _)))))⟩
              · skip
                refine lal (zs := encI iz) Try.zeroValue83 rfl (fun b7 => ?_)
                refine wl_perm (ins_perm 4 _ _) ?_
                refine hnil (fun w hw => ⟨(), hw.sub (List.Sublist.cons_cons _ (List.nil_sublist _))⟩) ?_
                refine he 5 (by kernel_rfl) rfl ?_
                refine lapp [_, _] _ [_] el74 rfl rfl hown1 rfl (news := encR x) rfl (fun w' hw => by have := hw.mem (i := 3) rfl 0; simpa using this) (encR_one _) (by decide) (by unfold maxLen; omega) (by omega) ?_
                intro g2 cap2 oe2 hown2
                obtain ⟨cur2, rfl⟩ := hown2.blk
                have hown3 : OwnL 79 130 (.slice (some ⟨g2, 0, none⟩) (n + 1) cap2) (n + 1) ((rowsL (lx l n x) (n + 1)).flatMap encR) [⟨g2, cur2, 79⟩] := by rw [rowsL_lx, List.flatMap_append]; simpa using hown2
                refine hnil (fun w hw => ⟨(), hw.sub (List.Sublist.cons_cons _ (List.nil_sublist _))⟩) ?_
                refine he 9 (by kernel_rfl) rfl ?_
                refine lclm hb50 rfl (mc (show _ = Value.slice (some ⟨g2, 0, none⟩) (n + 1) cap2 by first | rfl | (simp only [Nat.zero_add]; rfl)) (mc rfl mn)) (fun w' hw => of_calls w' x.hd.item (some ⟨g2, 0, none⟩) (n + 1) cap2 (lx l n x) (by omega) (SlIn.sl ((hown3.slInL (fun a => rfl) (fun i hi => ⟨_, rowsL_get hi, rfl⟩)).mono (fun e he => by obtain rfl := List.mem_singleton.1 he; simp)) hw) (lx_all (fun i hi => (hx i hi).keptS hw) (hxx.keptS hw)) (lx_all kx kxx) (lx_all (Pr := fun r => r.hd.tn ≤ 20 ∧ r.ch.gn ≤ 20) hfx hfxx)) ?_
                rintro v75 Hn2 ⟨I2, rfl, hI2, hIn2⟩
                refine wl_tail 5 ?_
                refine hnil (fun w hw => ⟨(), hw.sub (List.Sublist.cons_cons _ (List.nil_sublist _))⟩) ?_
                refine hq1 10 rfl (by kernel_rfl) (by kernel_rfl) (by kernel_rfl) (fun c a w h => h) (.inr ⟨_, rfl⟩) (fun w hw => ⟨(), hw.sub (List.Sublist.cons_cons _ (List.nil_sublist _))⟩) (fun T => mv rfl) ?_
                refine hq1 11 rfl (by kernel_rfl) (by kernel_rfl) (by kernel_rfl) (fun c a w h => h) (.inl ⟨_, rfl⟩) (fun w hw => ⟨(), hw.sub (List.Sublist.cons_cons _ (List.nil_sublist _))⟩) (fun T => ext (vs := [.agg (encI I2).toArray, .bool (ofI x.hd.item (lx l n x) (n + 1)).2]) rfl rfl) ?_
                refine hq1 12 rfl (by kernel_rfl) (by kernel_rfl) (by kernel_rfl) (fun c a w h => h) (.inl ⟨_, rfl⟩) (fun w hw => ⟨(), hw.sub (List.Sublist.cons_cons _ (List.nil_sublist _))⟩) (fun T => ext (vs := [.agg (encI I2).toArray, .bool (ofI x.hd.item (lx l n x) (n + 1)).2]) rfl rfl) ?_
                refine he 14 (by kernel_rfl) rfl ?_
                refine lstw 4 rfl rfl rfl Try.sizeOf83 rfl rfl rfl ?_
                refine hnil (fun w hw => ⟨(), hw.sub (List.Sublist.cons_cons _ (List.nil_sublist _))⟩) ?_
                refine hq1 15 rfl (by kernel_rfl) (by kernel_rfl) (by kernel_rfl) (fun c a w h => h) (.inr ⟨_, rfl⟩) (fun w hw => ⟨(), hw.sub (List.Sublist.cons_cons _ (List.nil_sublist _))⟩) (fun T => asgb rfl) ?_
                refine hend (by kernel_rfl) ?_
                exact nCut (b7, I2, Hn2) ⟨hI2, hIn2⟩ ⟨rfl, rfl, rfl, rfl, rfl, trivial⟩ ⟨_, List.Perm.refl _, List.Sublist.cons_cons _ (List.Sublist.cons_cons _ (List.Sublist.cons _ (List.Sublist.cons _ (List.Sublist.cons_cons _ (List.Sublist.refl _)))))⟩
            · skip
              refine lal (zs := encI iz) Try.zeroValue83 rfl (fun b8 => ?_)
              refine wl_perm (ins_perm 3 _ _) ?_
              refine hnil (fun w hw => ⟨(), hw.sub (List.Sublist.cons_cons _ (List.nil_sublist _))⟩) ?_
              refine he 4 (by kernel_rfl) rfl ?_
              refine lbs Try.underlying74 rfl (bs74 x) (fun b9 => ?_)
              refine wl_perm (ins_perm 4 _ _) ?_
              refine hnil (fun w hw => ⟨(), hw.sub (List.Sublist.cons_cons _ (List.nil_sublist _))⟩) ?_
              refine he 5 (by kernel_rfl) rfl ?_
              refine lapp [_, _] _ [_] el74 rfl rfl hown1 rfl (news := encR x) rfl (fun w' hw => by have := hw.mem (i := 4) rfl 0; simpa using this) (encR_one _) (by decide) (by unfold maxLen; omega) (by omega) ?_
              intro g2 cap2 oe2 hown2
              obtain ⟨cur2, rfl⟩ := hown2.blk
              have hown3 : OwnL 79 130 (.slice (some ⟨g2, 0, none⟩) (n + 1) cap2) (n + 1) ((rowsL (lx l n x) (n + 1)).flatMap encR) [⟨g2, cur2, 79⟩] := by rw [rowsL_lx, List.flatMap_append]; simpa using hown2
              refine hnil (fun w hw => ⟨(), hw.sub (List.Sublist.cons_cons _ (List.nil_sublist _))⟩) ?_
              refine he 9 (by kernel_rfl) rfl ?_
              refine lclm hb50 rfl (mc (show _ = Value.slice (some ⟨g2, 0, none⟩) (n + 1) cap2 by first | rfl | (simp only [Nat.zero_add]; rfl)) (mc rfl mn)) (fun w' hw => of_calls w' x.hd.item (some ⟨g2, 0, none⟩) (n + 1) cap2 (lx l n x) (by omega) (SlIn.sl ((hown3.slInL (fun a => rfl) (fun i hi => ⟨_, rowsL_get hi, rfl⟩)).mono (fun e he => by obtain rfl := List.mem_singleton.1 he; simp)) hw) (lx_all (fun i hi => (hx i hi).keptS hw) (hxx.keptS hw)) (lx_all kx kxx) (lx_all (Pr := fun r => r.hd.tn ≤ 20 ∧ r.ch.gn ≤ 20) hfx hfxx)) ?_
              rintro v75 Hn2 ⟨I2, rfl, hI2, hIn2⟩
              refine wl_tail 5 ?_
              refine hnil (fun w hw => ⟨(), hw.sub (List.Sublist.cons_cons _ (List.nil_sublist _))⟩) ?_
              refine hq1 10 rfl (by kernel_rfl) (by kernel_rfl) (by kernel_rfl) (fun c a w h => h) (.inr ⟨_, rfl⟩) (fun w hw => ⟨(), hw.sub (List.Sublist.cons_cons _ (List.nil_sublist _))⟩) (fun T => mv rfl) ?_
              refine hq1 11 rfl (by kernel_rfl) (by kernel_rfl) (by kernel_rfl) (fun c a w h => h) (.inl ⟨_, rfl⟩) (fun w hw => ⟨(), hw.sub (List.Sublist.cons_cons _ (List.nil_sublist _))⟩) (fun T => ext (vs := [.agg (encI I2).toArray, .bool (ofI x.hd.item (lx l n x) (n + 1)).2]) rfl rfl) ?_
              refine hq1 12 rfl (by kernel_rfl) (by kernel_rfl) (by kernel_rfl) (fun c a w h => h) (.inl ⟨_, rfl⟩) (fun w hw => ⟨(), hw.sub (List.Sublist.cons_cons _ (List.nil_sublist _))⟩) (fun T => ext (vs := [.agg (encI I2).toArray, .bool (ofI x.hd.item (lx l n x) (n + 1)).2]) rfl rfl) ?_
              refine he 14 (by kernel_rfl) rfl ?_
              refine lstw 3 rfl rfl rfl Try.sizeOf83 rfl rfl rfl ?_
              refine hnil (fun w hw => ⟨(), hw.sub (List.Sublist.cons_cons _ (List.nil_sublist _))⟩) ?_
              refine hq1 15 rfl (by kernel_rfl) (by kernel_rfl) (by kernel_rfl) (fun c a w h => h) (.inr ⟨_, rfl⟩) (fun w hw => ⟨(), hw.sub (List.Sublist.cons_cons _ (List.nil_sublist _))⟩) (fun T => asgb rfl) ?_
              refine hend (by kernel_rfl) ?_
              exact nCut (b8, I2, Hn2) ⟨hI2, hIn2⟩ ⟨rfl, rfl, rfl, rfl, rfl, trivial⟩ ⟨_, List.Perm.refl _, List.Sublist.cons_cons _ (List.Sublist.cons_cons _ (List.Sublist.cons _ (List.Sublist.cons_cons _ (List.Sublist.cons _ (List.Sublist.refl _)))))⟩
          · skip
            refine lbs Try.underlying74 rfl (bs74 x) (fun b10 => ?_)
            refine wl_perm (ins_perm 3 _ _) ?_
            refine hnil (fun w hw => ⟨(), hw.sub (List.Sublist.cons_cons _ (List.nil_sublist _))⟩) ?_
            refine hem2 2 13 (by kernel_rfl) rfl rfl ?_ ?_
            · skip
              refine lappx [_, _] _ [_] (xs := []) (news := (rowsL l n).flatMap encR) el74 rfl rfl ⟨rfl, .inr ⟨_, 0, [], rfl, rfl, Nat.le_refl _, by decide, rfl, rfl⟩⟩ rfl (by rw [flatM_len encR_len, rowsL_len]) (fun h0 => by obtain ⟨b, o, hp, hbl, hm⟩ := hl.at h0; exact ⟨_, hp, fun w' hw => by rw [rowsL_flat]; exact mem_flat (by decide) (fun i => rfl) (fun i hi => (hm i hi).kept hw.below hbl)⟩) (fun u hu => by obtain ⟨r, _, hr⟩ := List.mem_flatMap.1 hu; exact encR_one r u hr) (by unfold maxLen; omega) (by omega) ?_
              intro g1 cap1 oe1 hown1
              rw [List.nil_append] at hown1
              obtain ⟨cur1, rfl⟩ := hown1.blk
              refine hnil (fun w hw => ⟨(), hw.sub (List.Sublist.cons_cons _ (List.nil_sublist _))⟩) ?_
              refine hem2 5 13 (by kernel_rfl) rfl rfl ?_ ?_
              · skip
                refine lapp [_, _] _ [_] el74 rfl rfl hown1 rfl (news := encR x) rfl (fun w' hw => by have := hw.mem (i := 3) rfl 0; simpa using this) (encR_one _) (by decide) (by unfold maxLen; omega) (by omega) ?_
                intro g2 cap2 oe2 hown2
                obtain ⟨cur2, rfl⟩ := hown2.blk
                have hown3 : OwnL 79 130 (.slice (some ⟨g2, 0, none⟩) (n + 1) cap2) (n + 1) ((rowsL (lx l n x) (n + 1)).flatMap encR) [⟨g2, cur2, 79⟩] := by rw [rowsL_lx, List.flatMap_append]; simpa using hown2
                refine hnil (fun w hw => ⟨(), hw.sub (List.Sublist.cons_cons _ (List.nil_sublist _))⟩) ?_
                refine hem2 9 13 (by kernel_rfl) rfl rfl ?_ ?_
                · skip
                  refine lclm hb50 rfl (mc (show _ = Value.slice (some ⟨g2, 0, none⟩) (n + 1) cap2 by first | rfl | (simp only [Nat.zero_add]; rfl)) (mc rfl mn)) (fun w' hw => of_calls w' x.hd.item (some ⟨g2, 0, none⟩) (n + 1) cap2 (lx l n x) (by omega) (SlIn.sl ((hown3.slInL (fun a => rfl) (fun i hi => ⟨_, rowsL_get hi, rfl⟩)).mono (fun e he => by obtain rfl := List.mem_singleton.1 he; simp)) hw) (lx_all (fun i hi => (hx i hi).keptS hw) (hxx.keptS hw)) (lx_all kx kxx) (lx_all (Pr := fun r => r.hd.tn ≤ 20 ∧ r.ch.gn ≤ 20) hfx hfxx)) ?_
                  rintro v75 Hn2 ⟨I2, rfl, hI2, hIn2⟩
                  refine wl_tail 4 ?_
                  refine hnil (fun w hw => ⟨(), hw.sub (List.Sublist.cons_cons _ (List.nil_sublist _))⟩) ?_
                  refine hq1 10 rfl (by kernel_rfl) (by kernel_rfl) (by kernel_rfl) (fun c a w h => h) (.inr ⟨_, rfl⟩) (fun w hw => ⟨(), hw.sub (List.Sublist.cons_cons _ (List.nil_sublist _))⟩) (fun T => mv rfl) ?_
                  refine hq1 11 rfl (by kernel_rfl) (by kernel_rfl) (by kernel_rfl) (fun c a w h => h) (.inl ⟨_, rfl⟩) (fun w hw => ⟨(), hw.sub (List.Sublist.cons_cons _ (List.nil_sublist _))⟩) (fun T => ext (vs := [.agg (encI I2).toArray, .bool (ofI x.hd.item (lx l n x) (n + 1)).2]) rfl rfl) ?_
                  refine hq1 12 rfl (by kernel_rfl) (by kernel_rfl) (by kernel_rfl) (fun c a w h => h) (.inl ⟨_, rfl⟩) (fun w hw => ⟨(), hw.sub (List.Sublist.cons_cons _ (List.nil_sublist _))⟩) (fun T => ext (vs := [.agg (encI I2).toArray, .bool (ofI x.hd.item (lx l n x) (n + 1)).2]) rfl rfl) ?_
                  refine he 13 (by kernel_rfl) rfl ?_
                  refine lal (zs := encI iz) Try.zeroValue83 rfl (fun b11 => ?_)
                  refine wl_perm (ins_perm 4 _ _) ?_
                  refine hnil (fun w hw => ⟨(), hw.sub (List.Sublist.cons_cons _ (List.nil_sublist _))⟩) ?_
                  refine he 14 (by kernel_rfl) rfl ?_
                  refine lstw 4 rfl rfl rfl Try.sizeOf83 rfl rfl rfl ?_
                  refine hnil (fun w hw => ⟨(), hw.sub (List.Sublist.cons_cons _ (List.nil_sublist _))⟩) ?_
                  refine hq1 15 rfl (by kernel_rfl) (by kernel_rfl) (by kernel_rfl) (fun c a w h => h) (.inr ⟨_, rfl⟩) (fun w hw => ⟨(), hw.sub (List.Sublist.cons_cons _ (List.nil_sublist _))⟩) (fun T => asgb rfl) ?_
                  refine hend (by kernel_rfl) ?_
                  exact nCut (b11, I2, Hn2) ⟨hI2, hIn2⟩ ⟨rfl, rfl, rfl, rfl, rfl, trivial⟩ ⟨_, List.Perm.refl _, List.Sublist.cons_cons _ (List.Sublist.cons_cons _ (List.Sublist.cons _ (List.Sublist.cons _ (List.Sublist.cons_cons _ (List.Sublist.refl _)))))⟩
                · skip
                  refine lal (zs := encI iz) Try.zeroValue83 rfl (fun b12 => ?_)
                  refine wl_perm (ins_perm 4 _ _) ?_
                  refine hnil (fun w hw => ⟨(), hw.sub (List.Sublist.cons_cons _ (List.nil_sublist _))⟩) ?_
                  refine he 9 (by kernel_rfl) rfl ?_
                  refine lclm hb50 rfl (mc (show _ = Value.slice (some ⟨g2, 0, none⟩) (n + 1) cap2 by first | rfl | (simp only [Nat.zero_add]; rfl)) (mc rfl mn)) (fun w' hw => of_calls w' x.hd.item (some ⟨g2, 0, none⟩) (n + 1) cap2 (lx l n x) (by omega) (SlIn.sl ((hown3.slInL (fun a => rfl) (fun i hi => ⟨_, rowsL_get hi, rfl⟩)).mono (fun e he => by obtain rfl := List.mem_singleton.1 he; simp)) hw) (lx_all (fun i hi => (hx i hi).keptS hw) (hxx.keptS hw)) (lx_all kx kxx) (lx_all (Pr := fun r => r.hd.tn ≤ 20 ∧ r.ch.gn ≤ 20) hfx hfxx)) ?_
                  rintro v75 Hn2 ⟨I2, rfl, hI2, hIn2⟩
                  refine wl_tail 5 ?_
                  refine hnil (fun w hw => ⟨(), hw.sub (List.Sublist.cons_cons _ (List.nil_sublist _))⟩) ?_
                  refine hq1 10 rfl (by kernel_rfl) (by kernel_rfl) (by kernel_rfl) (fun c a w h => h) (.inr ⟨_, rfl⟩) (fun w hw => ⟨(), hw.sub (List.Sublist.cons_cons _ (List.nil_sublist _))⟩) (fun T => mv rfl) ?_
                  refine hq1 11 rfl (by kernel_rfl) (by kernel_rfl) (by kernel_rfl) (fun c a w h => h) (.inl ⟨_, rfl⟩) (fun w hw => ⟨(), hw.sub (List.Sublist.cons_cons _ (List.nil_sublist _))⟩) (fun T => ext (vs := [.agg (encI I2).toArray, .bool (ofI x.hd.item (lx l n x) (n + 1)).2]) rfl rfl) ?_
                  refine hq1 12 rfl (by kernel_rfl) (by kernel_rfl) (by kernel_rfl) (fun c a w h => h) (.inl ⟨_, rfl⟩) (fun w hw => ⟨(), hw.sub (List.Sublist.cons_cons _ (List.nil_sublist _))⟩) (fun T => ext (vs := [.agg (encI I2).toArray, .bool (ofI x.hd.item (lx l n x) (n + 1)).2]) rfl rfl) ?_
                  refine he 14 (by kernel_rfl) rfl ?_
                  refine lstw 4 rfl rfl rfl Try.sizeOf83 rfl rfl rfl ?_
                  refine hnil (fun w hw => ⟨(), hw.sub (List.Sublist.cons_cons _ (List.nil_sublist _))⟩) ?_
                  refine hq1 15 rfl (by kernel_rfl) (by kernel_rfl) (by kernel_rfl) (fun c a w h => h) (.inr ⟨_, rfl⟩) (fun w hw => ⟨(), hw.sub (List.Sublist.cons_cons _ (List.nil_sublist _))⟩) (fun T => asgb rfl) ?_
                  refine hend (by kernel_rfl) ?_
                  exact nCut (b12, I2, Hn2) ⟨hI2, hIn2⟩ ⟨rfl, rfl, rfl, rfl, rfl, trivial⟩ ⟨_, List.Perm.refl _, List.Sublist.cons_cons _ (List.Sublist.cons_cons _ (List.Sublist.cons _ (List.Sublist.cons _ (List.Sublist.cons_cons _ (List.Sublist.refl _)))))⟩
              · skip
                refine lal (zs := encI iz) Try.zeroValue83 rfl (fun b13 => ?_)
                refine wl_perm (ins_perm 4 _ _) ?_
                refine hnil (fun w hw => ⟨(), hw.sub (List.Sublist.cons_cons _ (List.nil_sublist _))⟩) ?_
                refine he 5 (by kernel_rfl) rfl ?_
                refine lapp [_, _] _ [_] el74 rfl rfl hown1 rfl (news := encR x) rfl (fun w' hw => by have := hw.mem (i := 3) rfl 0; simpa using this) (encR_one _) (by decide) (by unfold maxLen; omega) (by omega) ?_
                intro g2 cap2 oe2 hown2
                obtain ⟨cur2, rfl⟩ := hown2.blk
                have hown3 : OwnL 79 130 (.slice (some ⟨g2, 0, none⟩) (n + 1) cap2) (n + 1) ((rowsL (lx l n x) (n + 1)).flatMap encR) [⟨g2, cur2, 79⟩] := by rw [rowsL_lx, List.flatMap_append]; simpa using hown2
                refine hnil (fun w hw => ⟨(), hw.sub (List.Sublist.cons_cons _ (List.nil_sublist _))⟩) ?_
                refine he 9 (by kernel_rfl) rfl ?_
                refine lclm hb50 rfl (mc (show _ = Value.slice (some ⟨g2, 0, none⟩) (n + 1) cap2 by first | rfl | (simp only [Nat.zero_add]; rfl)) (mc rfl mn)) (fun w' hw => of_calls w' x.hd.item (some ⟨g2, 0, none⟩) (n + 1) cap2 (lx l n x) (by omega) (SlIn.sl ((hown3.slInL (fun a => rfl) (fun i hi => ⟨_, rowsL_get hi, rfl⟩)).mono (fun e he => by obtain rfl := List.mem_singleton.1 he; simp)) hw) (lx_all (fun i hi => (hx i hi).keptS hw) (hxx.keptS hw)) (lx_all kx kxx) (lx_all (Pr := fun r => r.hd.tn ≤ 20 ∧ r.ch.gn ≤ 20) hfx hfxx)) ?_
                rintro v75 Hn2 ⟨I2, rfl, hI2, hIn2⟩
                refine wl_tail 5 ?_
                refine hnil (fun w hw => ⟨(), hw.sub (List.Sublist.cons_cons _ (List.nil_sublist _))⟩) ?_
                refine hq1 10 rfl (by kernel_rfl) (by kernel_rfl) (by kernel_rfl) (fun c a w h => h) (.inr ⟨_, rfl⟩) (fun w hw => ⟨(), hw.sub (List.Sublist.cons_cons _ (List.nil_sublist _))⟩) (fun T => mv rfl) ?_
                refine hq1 11 rfl (by kernel_rfl) (by kernel_rfl) (by kernel_rfl) (fun c a w h => h) (.inl ⟨_, rfl⟩) (fun w hw => ⟨(), hw.sub (List.Sublist.cons_cons _ (List.nil_sublist _))⟩) (fun T => ext (vs := [.agg (encI I2).toArray, .bool (ofI x.hd.item (lx l n x) (n + 1)).2]) rfl rfl) ?_
                refine hq1 12 rfl (by kernel_rfl) (by kernel_rfl) (by kernel_rfl) (fun c a w h => h) (.inl ⟨_, rfl⟩) (fun w hw => ⟨(), hw.sub (List.Sublist.cons_cons _ (List.nil_sublist _))⟩) (fun T => ext (vs := [.agg (encI I2).toArray, .bool (ofI x.hd.item (lx l n x) (n + 1)).2]) rfl rfl) ?_
                refine he 14 (by kernel_rfl) rfl ?_
                refine lstw 4 rfl rfl rfl Try.sizeOf83 rfl rfl rfl ?_
                refine hnil (fun w hw => ⟨(), hw.sub (List.Sublist.cons_cons _ (List.nil_sublist _))⟩) ?_
                refine hq1 15 rfl (by kernel_rfl) (by kernel_rfl) (by kernel_rfl) (fun c a w h => h) (.inr ⟨_, rfl⟩) (fun w hw => ⟨(), hw.sub (List.Sublist.cons_cons _ (List.nil_sublist _))⟩) (fun T => asgb rfl) ?_
                refine hend (by kernel_rfl) ?_
                exact nCut (b13, I2, Hn2) ⟨hI2, hIn2⟩ ⟨rfl, rfl, rfl, rfl, rfl, trivial⟩ ⟨_, List.Perm.refl _, List.Sublist.cons_cons _ (List.Sublist.cons_cons _ (List.Sublist.cons _ (List.Sublist.cons _ (List.Sublist.cons_cons _ (List.Sublist.refl _)))))⟩
            · skip
              refine lal (zs := encI iz) Try.zeroValue83 rfl (fun b14 => ?_)
              refine wl_perm (ins_perm 4 _ _) ?_
              refine hnil (fun w hw => ⟨(), hw.sub (List.Sublist.cons_cons _ (List.nil_sublist _))⟩) ?_
              refine he 2 (by kernel_rfl) rfl ?_
              refine lappx [_, _] _ [_] (xs := []) (news := (rowsL l n).flatMap encR) el74 rfl rfl ⟨rfl, .inr ⟨_, 0, [], rfl, rfl, Nat.le_refl _, by decide, rfl, rfl⟩⟩ rfl (by rw [flatM_len encR_len, rowsL_len]) (fun h0 => by obtain ⟨b, o, hp, hbl, hm⟩ := hl.at h0; exact ⟨_, hp, fun w' hw => by rw [rowsL_flat]; exact mem_flat (by decide) (fun i => rfl) (fun i hi => (hm i hi).kept hw.below hbl)⟩) (fun u hu => by obtain ⟨r, _, hr⟩ := List.mem_flatMap.1 hu; exact encR_one r u hr) (by unfold maxLen; omega) (by omega) ?_
              intro g1 cap1 oe1 hown1
              rw [List.nil_append] at hown1
              obtain ⟨cur1, rfl⟩ := hown1.blk
              refine hnil (fun w hw => ⟨(), hw.sub (List.Sublist.cons_cons _ (List.nil_sublist _))⟩) ?_
              refine he 5 (by kernel_rfl) rfl ?_
              refine lapp [_, _] _ [_] el74 rfl rfl hown1 rfl (news := encR x) rfl (fun w' hw => by have := hw.mem (i := 3) rfl 0; simpa using this) (encR_one _) (by decide) (by unfold maxLen; omega) (by omega) ?_
              intro g2 cap2 oe2 hown2
              obtain ⟨cur2, rfl⟩ := hown2.blk
              have hown3 : OwnL 79 130 (.slice (some ⟨g2, 0, none⟩) (n + 1) cap2) (n + 1) ((rowsL (lx l n x) (n + 1)).flatMap encR) [⟨g2, cur2, 79⟩] := by rw [rowsL_lx, List.flatMap_append]; simpa using hown2
              refine hnil (fun w hw => ⟨(), hw.sub (List.Sublist.cons_cons _ (List.nil_sublist _))⟩) ?_
              refine he 9 (by kernel_rfl) rfl ?_
              refine lclm hb50 rfl (mc (show _ = Value.slice (some ⟨g2, 0, none⟩) (n + 1) cap2 by first | rfl | (simp only [Nat.zero_add]; rfl)) (mc rfl mn)) (fun w' hw => of_calls w' x.hd.item (some ⟨g2, 0, none⟩) (n + 1) cap2 (lx l n x) (by omega) (SlIn.sl ((hown3.slInL (fun a => rfl) (fun i hi => ⟨_, rowsL_get hi, rfl⟩)).mono (fun e he => by obtain rfl := List.mem_singleton.1 he; simp)) hw) (lx_all (fun i hi => (hx i hi).keptS hw) (hxx.keptS hw)) (lx_all kx kxx) (lx_all (Pr := fun r => r.hd.tn ≤ 20 ∧ r.ch.gn ≤ 20) hfx hfxx)) ?_
              rintro v75 Hn2 ⟨I2, rfl, hI2, hIn2⟩
              refine wl_tail 5 ?_
              refine hnil (fun w hw => ⟨(), hw.sub (List.Sublist.cons_cons _ (List.nil_sublist _))⟩) ?_
              refine hq1 10 rfl (by kernel_rfl) (by kernel_rfl) (by kernel_rfl) (fun c a w h => h) (.inr ⟨_, rfl⟩) (fun w hw => ⟨(), hw.sub (List.Sublist.cons_cons _ (List.nil_sublist _))⟩) (fun T => mv rfl) ?_
              refine hq1 11 rfl (by kernel_rfl) (by kernel_rfl) (by kernel_rfl) (fun c a w h => h) (.inl ⟨_, rfl⟩) (fun w hw => ⟨(), hw.sub (List.Sublist.cons_cons _ (List.nil_sublist _))⟩) (fun T => ext (vs := [.agg (encI I2).toArray, .bool (ofI x.hd.item (lx l n x) (n + 1)).2]) rfl rfl) ?_
              refine hq1 12 rfl (by kernel_rfl) (by kernel_rfl) (by kernel_rfl) (fun c a w h => h) (.inl ⟨_, rfl⟩) (fun w hw => ⟨(), hw.sub (List.Sublist.cons_cons _ (List.nil_sublist _))⟩) (fun T => ext (vs := [.agg (encI I2).toArray, .bool (ofI x.hd.item (lx l n x) (n + 1)).2]) rfl rfl) ?_
              refine he 14 (by kernel_rfl) rfl ?_
              refine lstw 4 rfl rfl rfl Try.sizeOf83 rfl rfl rfl ?_
              refine hnil (fun w hw => ⟨(), hw.sub (List.Sublist.cons_cons _ (List.nil_sublist _))⟩) ?_
              refine hq1 15 rfl (by kernel_rfl) (by kernel_rfl) (by kernel_rfl) (fun c a w h => h) (.inr ⟨_, rfl⟩) (fun w hw => ⟨(), hw.sub (List.Sublist.cons_cons _ (List.nil_sublist _))⟩) (fun T => asgb rfl) ?_
              refine hend (by kernel_rfl) ?_
              exact nCut (b14, I2, Hn2) ⟨hI2, hIn2⟩ ⟨rfl, rfl, rfl, rfl, rfl, trivial⟩ ⟨_, List.Perm.refl _, List.Sublist.cons_cons _ (List.Sublist.cons_cons _ (List.Sublist.cons _ (List.Sublist.cons _ (List.Sublist.cons_cons _ (List.Sublist.refl _)))))⟩
          · skip
            refine lal (zs := encI iz) Try.zeroValue83 rfl (fun b15 => ?_)
            refine wl_perm (ins_perm 3 _ _) ?_
            refine hnil (fun w hw => ⟨(), hw.sub (List.Sublist.cons_cons _ (List.nil_sublist _))⟩) ?_
            refine hem2 2 4 (by kernel_rfl) rfl rfl ?_ ?_
            · skip
              refine lappx [_, _] _ [_] (xs := []) (news := (rowsL l n).flatMap encR) el74 rfl rfl ⟨rfl, .inr ⟨_, 0, [], rfl, rfl, Nat.le_refl _, by decide, rfl, rfl⟩⟩ rfl (by rw [flatM_len encR_len, rowsL_len]) (fun h0 => by obtain ⟨b, o, hp, hbl, hm⟩ := hl.at h0; exact ⟨_, hp, fun w' hw => by rw [rowsL_flat]; exact mem_flat (by decide) (fun i => rfl) (fun i hi => (hm i hi).kept hw.below hbl)⟩) (fun u hu => by obtain ⟨r, _, hr⟩ := List.mem_flatMap.1 hu; exact encR_one r u hr) (by unfold maxLen; omega) (by omega) ?_
              intro g1 cap1 oe1 hown1
              rw [List.nil_append] at hown1
              obtain ⟨cur1, rfl⟩ := hown1.blk
              refine hnil (fun w hw => ⟨(), hw.sub (List.Sublist.cons_cons _ (List.nil_sublist _))⟩) ?_
              refine he 4 (by kernel_rfl) rfl ?_
              refine lbs Try.underlying74 rfl (bs74 x) (fun b16 => ?_)
              refine wl_perm (ins_perm 4 _ _) ?_
              refine hnil (fun w hw => ⟨(), hw.sub (List.Sublist.cons_cons _ (List.nil_sublist _))⟩) ?_
              refine he 5 (by kernel_rfl) rfl ?_
              refine lapp [_, _] _ [_] el74 rfl rfl hown1 rfl (news := encR x) rfl (fun w' hw => by have := hw.mem (i := 4) rfl 0; simpa using this) (encR_one _) (by decide) (by unfold maxLen; omega) (by omega) ?_
              intro g2 cap2 oe2 hown2
              obtain ⟨cur2, rfl⟩ := hown2.blk
              have hown3 : OwnL 79 130 (.slice (some ⟨g2, 0, none⟩) (n + 1) cap2) (n + 1) ((rowsL (lx l n x) (n + 1)).flatMap encR) [⟨g2, cur2, 79⟩] := by rw [rowsL_lx, List.flatMap_append]; simpa using hown2
              refine hnil (fun w hw => ⟨(), hw.sub (List.Sublist.cons_cons _ (List.nil_sublist _))⟩) ?_
              refine he 9 (by kernel_rfl) rfl ?_
              refine lclm hb50 rfl (mc (show _ = Value.slice (some ⟨g2, 0, none⟩) (n + 1) cap2 by first | rfl | (simp only [Nat.zero_add]; rfl)) (mc rfl mn)) (fun w' hw => of_calls w' x.hd.item (some ⟨g2, 0, none⟩) (n + 1) cap2 (lx l n x) (by omega) (SlIn.sl ((hown3.slInL (fun a => rfl) (fun i hi => ⟨_, rowsL_get hi, rfl⟩)).mono (fun e he => by obtain rfl := List.mem_singleton.1 he; simp)) hw) (lx_all (fun i hi => (hx i hi).keptS hw) (hxx.keptS hw)) (lx_all kx kxx) (lx_all (Pr := fun r => r.hd.tn ≤ 20 ∧ r.ch.gn ≤ 20) hfx hfxx)) ?_
              rintro v75 Hn2 ⟨I2, rfl, hI2, hIn2⟩
              refine wl_tail 5 ?_
              refine hnil (fun w hw => ⟨(), hw.sub (List.Sublist.cons_cons _ (List.nil_sublist _))⟩) ?_
              refine hq1 10 rfl (by kernel_rfl) (by kernel_rfl) (by kernel_rfl) (fun c a w h => h) (.inr ⟨_, rfl⟩) (fun w hw => ⟨(), hw.sub (List.Sublist.cons_cons _ (List.nil_sublist _))⟩) (fun T => mv rfl) ?_
              refine hq1 11 rfl (by kernel_rfl) (by kernel_rfl) (by kernel_rfl) (fun c a w h => h) (.inl ⟨_, rfl⟩) (fun w hw => ⟨(), hw.sub (List.Sublist.cons_cons _ (List.nil_sublist _))⟩) (fun T => ext (vs := [.agg (encI I2).toArray, .bool (ofI x.hd.item (lx l n x) (n + 1)).2]) rfl rfl) ?_
              refine hq1 12 rfl (by kernel_rfl) (by kernel_rfl) (by kernel_rfl) (fun c a w h => h) (.inl ⟨_, rfl⟩) (fun w hw => ⟨(), hw.sub (List.Sublist.cons_cons _ (List.nil_sublist _))⟩) (fun T => ext (vs := [.agg (encI I2).toArray, .bool (ofI x.hd.item (lx l n x) (n + 1)).2]) rfl rfl) ?_
              refine he 14 (by kernel_rfl) rfl ?_
              refine lstw 3 rfl rfl rfl Try.sizeOf83 rfl rfl rfl ?_
              refine hnil (fun w hw => ⟨(), hw.sub (List.Sublist.cons_cons _ (List.nil_sublist _))⟩) ?_
              refine hq1 15 rfl (by kernel_rfl) (by kernel_rfl) (by kernel_rfl) (fun c a w h => h) (.inr ⟨_, rfl⟩) (fun w hw => ⟨(), hw.sub (List.Sublist.cons_cons _ (List.nil_sublist _))⟩) (fun T => asgb rfl) ?_
              refine hend (by kernel_rfl) ?_
              exact nCut (b15, I2, Hn2) ⟨hI2, hIn2⟩ ⟨rfl, rfl, rfl, rfl, rfl, trivial⟩ ⟨_, List.Perm.refl _, List.Sublist.cons_cons _ (List.Sublist.cons_cons _ (List.Sublist.cons _ (List.Sublist.cons_cons _ (List.Sublist.cons _ (List.Sublist.refl _)))))⟩
            · skip
              refine lbs Try.underlying74 rfl (bs74 x) (fun b17 => ?_)
              refine wl_perm (ins_perm 4 _ _) ?_
              refine hnil (fun w hw => ⟨(), hw.sub (List.Sublist.cons_cons _ (List.nil_sublist _))⟩) ?_
              refine he 2 (by kernel_rfl) rfl ?_
              refine lappx [_, _] _ [_] (xs := []) (news := (rowsL l n).flatMap encR) el74 rfl rfl ⟨rfl, .inr ⟨_, 0, [], rfl, rfl, Nat.le_refl _, by decide, rfl, rfl⟩⟩ rfl (by rw [flatM_len encR_len, rowsL_len]) (fun h0 => by obtain ⟨b, o, hp, hbl, hm⟩ := hl.at h0; exact ⟨_, hp, fun w' hw => by rw [rowsL_flat]; exact mem_flat (by decide) (fun i => rfl) (fun i hi => (hm i hi).kept hw.below hbl)⟩) (fun u hu => by obtain ⟨r, _, hr⟩ := List.mem_flatMap.1 hu; exact encR_one r u hr) (by unfold maxLen; omega) (by omega) ?_
              intro g1 cap1 oe1 hown1
              rw [List.nil_append] at hown1
              obtain ⟨cur1, rfl⟩ := hown1.blk
              refine hnil (fun w hw => ⟨(), hw.sub (List.Sublist.cons_cons _ (List.nil_sublist _))⟩) ?_
              refine he 5 (by kernel_rfl) rfl ?_
              refine lapp [_, _] _ [_] el74 rfl rfl hown1 rfl (news := encR x) rfl (fun w' hw => by have := hw.mem (i := 4) rfl 0; simpa using this) (encR_one _) (by decide) (by unfold maxLen; omega) (by omega) ?_
              intro g2 cap2 oe2 hown2
              obtain ⟨cur2, rfl⟩ := hown2.blk
              have hown3 : OwnL 79 130 (.slice (some ⟨g2, 0, none⟩) (n + 1) cap2) (n + 1) ((rowsL (lx l n x) (n + 1)).flatMap encR) [⟨g2, cur2, 79⟩] := by rw [rowsL_lx, List.flatMap_append]; simpa using hown2
              refine hnil (fun w hw => ⟨(), hw.sub (List.Sublist.cons_cons _ (List.nil_sublist _))⟩) ?_
              refine he 9 (by kernel_rfl) rfl ?_
              refine lclm hb50 rfl (mc (show _ = Value.slice (some ⟨g2, 0, none⟩) (n + 1) cap2 by first | rfl | (simp only [Nat.zero_add]; rfl)) (mc rfl mn)) (fun w' hw => of_calls w' x.hd.item (some ⟨g2, 0, none⟩) (n + 1) cap2 (lx l n x) (by omega) (SlIn.sl ((hown3.slInL (fun a => rfl) (fun i hi => ⟨_, rowsL_get hi, rfl⟩)).mono (fun e he => by obtain rfl := List.mem_singleton.1 he; simp)) hw) (lx_all (fun i hi => (hx i hi).keptS hw) (hxx.keptS hw)) (lx_all kx kxx) (lx_all (Pr := fun r => r.hd.tn ≤ 20 ∧ r.ch.gn ≤ 20) hfx hfxx)) ?_
              rintro v75 Hn2 ⟨I2, rfl, hI2, hIn2⟩
              refine wl_tail 5 ?_
              refine hnil (fun w hw => ⟨(), hw.sub (List.Sublist.cons_cons _ (List.nil_sublist _))⟩) ?_
              refine hq1 10 rfl (by kernel_rfl) (by kernel_rfl) (by kernel_rfl) (fun c a w h => h) (.inr ⟨_, rfl⟩) (fun w hw => ⟨(), hw.sub (List.Sublist.cons_cons _ (List.nil_sublist _))⟩) (fun T => mv rfl) ?_
              refine hq1 11 rfl (by kernel_rfl) (by kernel_rfl) (by kernel_rfl) (fun c a w h => h) (.inl ⟨_, rfl⟩) (fun w hw => ⟨(), hw.sub (List.Sublist.cons_cons _ (List.nil_sublist _))⟩) (fun T => ext (vs := [.agg (encI I2).toArray, .bool (ofI x.hd.item (lx l n x) (n + 1)).2]) rfl rfl) ?_
              refine hq1 12 rfl (by kernel_rfl) (by kernel_rfl) (by kernel_rfl) (fun c a w h => h) (.inl ⟨_, rfl⟩) (fun w hw => ⟨(), hw.sub (List.Sublist.cons_cons _ (List.nil_sublist _))⟩) (fun T => ext (vs := [.agg (encI I2).toArray, .bool (ofI x.hd.item (lx l n x) (n + 1)).2]) rfl rfl) ?_
              refine he 14 (by kernel_rfl) rfl ?_
              refine lstw 3 rfl rfl rfl Try.sizeOf83 rfl rfl rfl ?_
              refine hnil (fun w hw => ⟨(), hw.sub (List.Sublist.cons_cons _ (List.nil_sublist _))⟩) ?_
              refine hq1 15 rfl (by kernel_rfl) (by kernel_rfl) (by kernel_rfl) (fun c a w h => h) (.inr ⟨_, rfl⟩) (fun w hw => ⟨(), hw.sub (List.Sublist.cons_cons _ (List.nil_sublist _))⟩) (fun T => asgb rfl) ?_
              refine hend (by kernel_rfl) ?_
              exact nCut (b15, I2, Hn2) ⟨hI2, hIn2⟩ ⟨rfl, rfl, rfl, rfl, rfl, trivial⟩ ⟨_, List.Perm.refl _, List.Sublist.cons_cons _ (List.Sublist.cons_cons _ (List.Sublist.cons _ (List.Sublist.cons_cons _ (List.Sublist.cons _ (List.Sublist.refl _)))))⟩
        · skip
          refine lbs Try.underlying74 rfl (bs74 x) (fun b18 => ?_)
          refine wl_perm (ins_perm 2 _ _) ?_
          refine hnil (fun w hw => ⟨(), hw.sub (List.Sublist.cons_cons _ (List.nil_sublist _))⟩) ?_
          refine hem2 0 13 (by kernel_rfl) rfl rfl ?_ ?_
          · skip
            refine lbs Try.underlying74 rfl (bs74z) (fun b19 => ?_)
            refine wl_perm (ins_perm 3 _ _) ?_
            refine hnil (fun w hw => ⟨(), hw.sub (List.Sublist.cons_cons _ (List.nil_sublist _))⟩) ?_
            refine hem2 2 13 (by kernel_rfl) rfl rfl ?_ ?_
            · skip
              refine lappx [_, _, _] _ [_] (xs := []) (news := (rowsL l n).flatMap encR) el74 rfl rfl ⟨rfl, .inr ⟨_, 0, [], rfl, rfl, Nat.le_refl _, by decide, rfl, rfl⟩⟩ rfl (by rw [flatM_len encR_len, rowsL_len]) (fun h0 => by obtain ⟨b, o, hp, hbl, hm⟩ := hl.at h0; exact ⟨_, hp, fun w' hw => by rw [rowsL_flat]; exact mem_flat (by decide) (fun i => rfl) (fun i hi => (hm i hi).kept hw.below hbl)⟩) (fun u hu => by obtain ⟨r, _, hr⟩ := List.mem_flatMap.1 hu; exact encR_one r u hr) (by unfold maxLen; omega) (by omega) ?_
              intro g1 cap1 oe1 hown1
              rw [List.nil_append] at hown1
              obtain ⟨cur1, rfl⟩ := hown1.blk
              refine hnil (fun w hw => ⟨(), hw.sub (List.Sublist.cons_cons _ (List.nil_sublist _))⟩) ?_
              refine hem2 5 13 (by kernel_rfl) rfl rfl ?_ ?_
              · skip
                refine lapp [_, _, _] _ [_] el74 rfl rfl hown1 rfl (news := encR x) rfl (fun w' hw => by have := hw.mem (i := 2) rfl 0; simpa using this) (encR_one _) (by decide) (by unfold maxLen; omega) (by omega) ?_
                intro g2 cap2 oe2 hown2
                obtain ⟨cur2, rfl⟩ := hown2.blk
                have hown3 : OwnL 79 130 (.slice (some ⟨g2, 0, none⟩) (n + 1) cap2) (n + 1) ((rowsL (lx l n x) (n + 1)).flatMap encR) [⟨g2, cur2, 79⟩] := by rw [rowsL_lx, List.flatMap_append]; simpa using hown2
                refine hnil (fun w hw => ⟨(), hw.sub (List.Sublist.cons_cons _ (List.nil_sublist _))⟩) ?_
                refine hem2 9 13 (by kernel_rfl) rfl rfl ?_ ?_
                · skip
                  refine lclm hb50 rfl (mc (show _ = Value.slice (some ⟨g2, 0, none⟩) (n + 1) cap2 by first | rfl | (simp only [Nat.zero_add]; rfl)) (mc rfl mn)) (fun w' hw => of_calls w' x.hd.item (some ⟨g2, 0, none⟩) (n + 1) cap2 (lx l n x) (by omega) (SlIn.sl ((hown3.slInL (fun a => rfl) (fun i hi => ⟨_, rowsL_get hi, rfl⟩)).mono (fun e he => by obtain rfl := List.mem_singleton.1 he; simp)) hw) (lx_all (fun i hi => (hx i hi).keptS hw) (hxx.keptS hw)) (lx_all kx kxx) (lx_all (Pr := fun r => r.hd.tn ≤ 20 ∧ r.ch.gn ≤ 20) hfx hfxx)) ?_
                  rintro v75 Hn2 ⟨I2, rfl, hI2, hIn2⟩
                  refine wl_tail 4 ?_
                  refine hnil (fun w hw => ⟨(), hw.sub (List.Sublist.cons_cons _ (List.nil_sublist _))⟩) ?_
                  refine hq1 10 rfl (by kernel_rfl) (by kernel_rfl) (by kernel_rfl) (fun c a w h => h) (.inr ⟨_, rfl⟩) (fun w hw => ⟨(), hw.sub (List.Sublist.cons_cons _ (List.nil_sublist _))⟩) (fun T => mv rfl) ?_
                  refine hq1 11 rfl (by kernel_rfl) (by kernel_rfl) (by kernel_rfl) (fun c a w h => h) (.inl ⟨_, rfl⟩) (fun w hw => ⟨(), hw.sub (List.Sublist.cons_cons _ (List.nil_sublist _))⟩) (fun T => ext (vs := [.agg (encI I2).toArray, .bool (ofI x.hd.item (lx l n x) (n + 1)).2]) rfl rfl) ?_
                  refine hq1 12 rfl (by kernel_rfl) (by kernel_rfl) (by kernel_rfl) (fun c a w h => h) (.inl ⟨_, rfl⟩) (fun w hw => ⟨(), hw.sub (List.Sublist.cons_cons _ (List.nil_sublist _))⟩) (fun T => ext (vs := [.agg (encI I2).toArray, .bool (ofI x.hd.item (lx l n x) (n + 1)).2]) rfl rfl) ?_
                  refine he 13 (by kernel_rfl) rfl ?_
                  refine lal (zs := encI iz) Try.zeroValue83 rfl (fun b20 => ?_)
                  refine wl_perm (ins_perm 4 _ _) ?_
                  refine hnil (fun w hw => ⟨(), hw.sub (List.Sublist.cons_cons _ (List.nil_sublist _))⟩) ?_
                  refine he 14 (by kernel_rfl) rfl ?_
                  refine lstw 4 rfl rfl rfl Try.sizeOf83 rfl rfl rfl ?_
                  refine hnil (fun w hw => ⟨(), hw.sub (List.Sublist.cons_cons _ (List.nil_sublist _))⟩) ?_
                  refine hq1 15 rfl (by kernel_rfl) (by kernel_rfl) (by kernel_rfl) (fun c a w h => h) (.inr ⟨_, rfl⟩) (fun w hw => ⟨(), hw.sub (List.Sublist.cons_cons _ (List.nil_sublist _))⟩) (fun T => asgb rfl) ?_
                  refine hend (by kernel_rfl) ?_
                  exact nCut (b20, I2, Hn2) ⟨hI2, hIn2⟩ ⟨rfl, rfl, rfl, rfl, rfl, trivial⟩ ⟨_, List.Perm.refl _, List.Sublist.cons_cons _ (List.Sublist.cons_cons _ (List.Sublist.cons _ (List.Sublist.cons _ (List.Sublist.cons_cons _ (List.Sublist.refl _)))))⟩
                · skip
                  refine lal (zs := encI iz) Try.zeroValue83 rfl (fun b21 => ?_)
                  refine wl_perm (ins_perm 4 _ _) ?_
                  refine hnil (fun w hw => ⟨(), hw.sub (List.Sublist.cons_cons _ (List.nil_sublist _))⟩) ?_
                  refine he 9 (by kernel_rfl) rfl ?_
                  refine lclm hb50 rfl (mc (show _ = Value.slice (some ⟨g2, 0, none⟩) (n + 1) cap2 by first | rfl | (simp only [Nat.zero_add]; rfl)) (mc rfl mn)) (fun w' hw => of_calls w' x.hd.item (some ⟨g2, 0, none⟩) (n + 1) cap2 (lx l n x) (by omega) (SlIn.sl ((hown3.slInL (fun a => rfl) (fun i hi => ⟨_, rowsL_get hi, rfl⟩)).mono (fun e he => by obtain rfl := List.mem_singleton.1 he; simp)) hw) (lx_all (fun i hi => (hx i hi).keptS hw) (hxx.keptS hw)) (lx_all kx kxx) (lx_all (Pr := fun r => r.hd.tn ≤ 20 ∧ r.ch.gn ≤ 20) hfx hfxx)) ?_
                  rintro v75 Hn2 ⟨I2, rfl, hI2, hIn2⟩
                  refine wl_tail 5 ?_
                  refine hnil (fun w hw => ⟨(), hw.sub (List.Sublist.cons_cons _ (List.nil_sublist _))⟩) ?_
                  refine hq1 10 rfl (by kernel_rfl) (by kernel_rfl) (by kernel_rfl) (fun c a w h => h) (.inr ⟨_, rfl⟩) (fun w hw => ⟨(), hw.sub (List.Sublist.cons_cons _ (List.nil_sublist _))⟩) (fun T => mv rfl) ?_
                  refine hq1 11 rfl (by kernel_rfl) (by kernel_rfl) (by kernel_rfl) (fun c a w h => h) (.inl ⟨_, rfl⟩) (fun w hw => ⟨(), hw.sub (List.Sublist.cons_cons _ (List.nil_sublist _))⟩) (fun T => ext (vs := [.agg (encI I2).toArray, .bool (ofI x.hd.item (lx l n x) (n + 1)).2]) rfl rfl) ?_
                  refine hq1 12 rfl (by kernel_rfl) (by kernel_rfl) (by kernel_rfl) (fun c a w h => h) (.inl ⟨_, rfl⟩) (fun w hw => ⟨(), hw.sub (List.Sublist.cons_cons _ (List.nil_sublist _))⟩) (fun T => ext (vs := [.agg (encI I2).toArray, .bool (ofI x.hd.item (lx l n x) (n + 1)).2]) rfl rfl) ?_
                  refine he 14 (by kernel_rfl) rfl ?_
                  refine lstw 4 rfl rfl rfl Try.sizeOf83 rfl rfl rfl ?_
                  refine hnil (fun w hw => ⟨(), hw.sub (List.Sublist.cons_cons _ (List.nil_sublist _))⟩) ?_
                  refine hq1 15 rfl (by kernel_rfl) (by kernel_rfl) (by kernel_rfl) (fun c a w h => h) (.inr ⟨_, rfl⟩) (fun w hw => ⟨(), hw.sub (List.Sublist.cons_cons _ (List.nil_sublist _))⟩) (fun T => asgb rfl) ?_
                  refine hend (by kernel_rfl) ?_
                  exact nCut (b21, I2, Hn2) ⟨hI2, hIn2⟩ ⟨rfl, rfl, rfl, rfl, rfl, trivial⟩ ⟨_, List.Perm.refl _, List.Sublist.cons_cons _ (List.Sublist.cons_cons _ (List.Sublist.cons _ (List.Sublist.cons _ (List.Sublist.cons_cons _ (List.Sublist.refl _)))))⟩
              · skip
                refine lal (zs := encI iz) Try.zeroValue83 rfl (fun b22 => ?_)
                refine wl_perm (ins_perm 4 _ _) ?_
                refine hnil (fun w hw => ⟨(), hw.sub (List.Sublist.cons_cons _ (List.nil_sublist _))⟩) ?_
                refine he 5 (by kernel_rfl) rfl ?_
                refine lapp [_, _, _] _ [_] el74 rfl rfl hown1 rfl (news := encR x) rfl (fun w' hw => by have := hw.mem (i := 2) rfl 0; simpa using this) (encR_one _) (by decide) (by unfold maxLen; omega) (by omega) ?_
                intro g2 cap2 oe2 hown2
                obtain ⟨cur2, rfl⟩ := hown2.blk
                have hown3 : OwnL 79 130 (.slice (some ⟨g2, 0, none⟩) (n + 1) cap2) (n + 1) ((rowsL (lx l n x) (n + 1)).flatMap encR) [⟨g2, cur2, 79⟩] := by rw [rowsL_lx, List.flatMap_append]; simpa using hown2
                refine hnil (fun w hw => ⟨(), hw.sub (List.Sublist.cons_cons _ (List.nil_sublist _))⟩) ?_
                refine he 9 (by kernel_rfl) rfl ?_
                refine lclm hb50 rfl (mc (show _ = Value.slice (some ⟨g2, 0, none⟩) (n + 1) cap2 by first | rfl | (simp only [Nat.zero_add]; rfl)) (mc rfl mn)) (fun w' hw => of_calls w' x.hd.item (some ⟨g2, 0, none⟩) (n + 1) cap2 (lx l n x) (by omega) (SlIn.sl ((hown3.slInL (fun a => rfl) (fun i hi => ⟨_, rowsL_get hi, rfl⟩)).mono (fun e he => by obtain rfl := List.mem_singleton.1 he; simp)) hw) (lx_all (fun i hi => (hx i hi).keptS hw) (hxx.keptS hw)) (lx_all kx kxx) (lx_all (Pr := fun r => r.hd.tn ≤ 20 ∧ r.ch.gn ≤ 20) hfx hfxx)) ?_
                rintro v75 Hn2 ⟨I2, rfl, hI2, hIn2⟩
                refine wl_tail 5 ?_
                refine hnil (fun w hw => ⟨(), hw.sub (List.Sublist.cons_cons _ (List.nil_sublist _))⟩) ?_
                refine hq1 10 rfl (by kernel_rfl) (by kernel_rfl) (by kernel_rfl) (fun c a w h => h) (.inr ⟨_, rfl⟩) (fun w hw => ⟨(), hw.sub (List.Sublist.cons_cons _ (List.nil_sublist _))⟩) (fun T => mv rfl) ?_
                refine hq1 11 rfl (by kernel_rfl) (by kernel_rfl) (by kernel_rfl) (fun c a w h => h) (.inl ⟨_, rfl⟩) (fun w hw => ⟨(), hw.sub (List.Sublist.cons_cons _ (List.nil_sublist _))⟩) (fun T => ext (vs := [.agg (encI I2).toArray, .bool (ofI x.hd.item (lx l n x) (n + 1)).2]) rfl rfl) ?_
                refine hq1 12 rfl (by kernel_rfl) (by kernel_rfl) (by kernel_rfl) (fun c a w h => h) (.inl ⟨_, rfl⟩) (fun w hw => ⟨(), hw.sub (List.Sublist.cons_cons _ (List.nil_sublist _))⟩) (fun T => ext (vs := [.agg (encI I2).toArray, .bool (ofI x.hd.item (lx l n x) (n + 1)).2]) rfl rfl) ?_
                refine he 14 (by kernel_rfl) rfl ?_
                refine lstw 4 rfl rfl rfl Try.sizeOf83 rfl rfl rfl ?_
                refine hnil (fun w hw => ⟨(), hw.sub (List.Sublist.cons_cons _ (List.nil_sublist _))⟩) ?_
                refine hq1 15 rfl (by kernel_rfl) (by kernel_rfl) (by kernel_rfl) (fun c a w h => h) (.inr ⟨_, rfl⟩) (fun w hw => ⟨(), hw.sub (List.Sublist.cons_cons _ (List.nil_sublist _))⟩) (fun T => asgb rfl) ?_
                refine hend (by kernel_rfl) ?_
                exact nCut (b22, I2, Hn2) ⟨hI2, hIn2⟩ ⟨rfl, rfl, rfl, rfl, rfl, trivial⟩ ⟨_, List.Perm.refl _, List.Sublist.cons_cons _ (List.Sublist.cons_cons _ (List.Sublist.cons _ (List.Sublist.cons _ (List.Sublist.cons_cons _ (List.Sublist.refl _)))))⟩
            · skip
              refine lal (zs := encI iz) Try.zeroValue83 rfl (fun b23 => ?_)
              refine wl_perm (ins_perm 4 _ _) ?_
              refine hnil (fun w hw => ⟨(), hw.sub (List.Sublist.cons_cons _ (List.nil_sublist _))⟩) ?_
              refine he 2 (by kernel_rfl) rfl ?_
              refine lappx [_, _, _] _ [_] (xs := []) (news := (rowsL l n).flatMap encR) el74 rfl rfl ⟨rfl, .inr ⟨_, 0, [], rfl, rfl, Nat.le_refl _, by decide, rfl, rfl⟩⟩ rfl (by rw [flatM_len encR_len, rowsL_len]) (fun h0 => by obtain ⟨b, o, hp, hbl, hm⟩ := hl.at h0; exact ⟨_, hp, fun w' hw => by rw [rowsL_flat]; exact mem_flat (by decide) (fun i => rfl) (fun i hi => (hm i hi).kept hw.below hbl)⟩) (fun u hu => by obtain ⟨r, _, hr⟩ := List.mem_flatMap.1 hu; exact encR_one r u hr) (by unfold maxLen; omega) (by omega) ?_
              intro g1 cap1 oe1 hown1
              rw [List.nil_append] at hown1
              obtain ⟨cur1, rfl⟩ := hown1.blk
              refine hnil (fun w hw => ⟨(), hw.sub (List.Sublist.cons_cons _ (List.nil_sublist _))⟩) ?_
              refine he 5 (by kernel_rfl) rfl ?_
              refine lapp [_, _, _] _ [_] el74 rfl rfl hown1 rfl (news := encR x) rfl (fun w' hw => by have := hw.mem (i := 2) rfl 0; simpa using this) (encR_one _) (by decide) (by unfold maxLen; omega) (by omega) ?_
              intro g2 cap2 oe2 hown2
              obtain ⟨cur2, rfl⟩ := hown2.blk
              have hown3 : OwnL 79 130 (.slice (some ⟨g2, 0, none⟩) (n + 1) cap2) (n + 1) ((rowsL (lx l n x) (n + 1)).flatMap encR) [⟨g2, cur2, 79⟩] := by rw [rowsL_lx, List.flatMap_append]; simpa using hown2
              refine hnil (fun w hw => ⟨(), hw.sub (List.Sublist.cons_cons _ (List.nil_sublist _))⟩) ?_
              refine he 9 (by kernel_rfl) rfl ?_
              refine lclm hb50 rfl (mc (show _ = Value.slice (some ⟨g2, 0, none⟩) (n + 1) cap2 by first | rfl | (simp only [Nat.zero_add]; rfl)) (mc rfl mn)) (fun w' hw => of_calls w' x.hd.item (some ⟨g2, 0, none⟩) (n + 1) cap2 (lx l n x) (by omega) (SlIn.sl ((hown3.slInL (fun a => rfl) (fun i hi => ⟨_, rowsL_get hi, rfl⟩)).mono (fun e he => by obtain rfl := List.mem_singleton.1 he; simp)) hw) (lx_all (fun i hi => (hx i hi).keptS hw) (hxx.keptS hw)) (lx_all kx kxx) (lx_all (Pr := fun r => r.hd.tn ≤ 20 ∧ r.ch.gn ≤ 20) hfx hfxx)) ?_
              rintro v75 Hn2 ⟨I2, rfl, hI2, hIn2⟩
              refine wl_tail 5 ?_
              refine hnil (fun w hw => ⟨(), hw.sub (List.Sublist.cons_cons _ (List.nil_sublist _))⟩) ?_
              refine hq1 10 rfl (by kernel_rfl) (by kernel_rfl) (by kernel_rfl) (fun c a w h => h) (.inr ⟨_, rfl⟩) (fun w hw => ⟨(), hw.sub (List.Sublist.cons_cons _ (List.nil_sublist _))⟩) (fun T => mv rfl) ?_
              refine hq1 11 rfl (by kernel_rfl) (by kernel_rfl) (by kernel_rfl) (fun c a w h => h) (.inl ⟨_, rfl⟩) (fun w hw => ⟨(), hw.sub (List.Sublist.cons_cons _ (List.nil_sublist _))⟩) (fun T => ext (vs := [.agg (encI I2).toArray, .bool (ofI x.hd.item (lx l n x) (n + 1)).2]) rfl rfl) ?_
              refine hq1 12 rfl (by kernel_rfl) (by kernel_rfl) (by kernel_rfl) (fun c a w h => h) (.inl ⟨_, rfl⟩) (fun w hw => ⟨(), hw.sub (List.Sublist.cons_cons _ (List.nil_sublist _))⟩) (fun T => ext (vs := [.agg (encI I2).toArray, .bool (ofI x.hd.item (lx l n x) (n + 1)).2]) rfl rfl) ?_
              refine he 14 (by kernel_rfl) rfl ?_
              refine lstw 4 rfl rfl rfl Try.sizeOf83 rfl rfl rfl ?_
              refine hnil (fun w hw => ⟨(), hw.sub (List.Sublist.cons_cons _ (List.nil_sublist _))⟩) ?_
              refine hq1 15 rfl (by kernel_rfl) (by kernel_rfl) (by kernel_rfl) (fun c a w h => h) (.inr ⟨_, rfl⟩) (fun w hw => ⟨(), hw.sub (List.Sublist.cons_cons _ (List.nil_sublist _))⟩) (fun T => asgb rfl) ?_
              refine hend (by kernel_rfl) ?_
              exact nCut (b23, I2, Hn2) ⟨hI2, hIn2⟩ ⟨rfl, rfl, rfl, rfl, rfl, trivial⟩ ⟨_, List.Perm.refl _, List.Sublist.cons_cons _ (List.Sublist.cons_cons _ (List.Sublist.cons _ (List.Sublist.cons _ (List.Sublist.cons_cons _ (List.Sublist.refl _)))))⟩
          · skip
            refine lal (zs := encI iz) Try.zeroValue83 rfl (fun b24 => ?_)
            refine wl_perm (ins_perm 3 _ _) ?_
            refine hnil (fun w hw => ⟨(), hw.sub (List.Sublist.cons_cons _ (List.nil_sublist _))⟩) ?_
            refine he 0 (by kernel_rfl) rfl ?_
            refine lbs Try.underlying74 rfl (bs74z) (fun b25 => ?_)
            refine wl_perm (ins_perm 4 _ _) ?_
            refine hnil (fun w hw => ⟨(), hw.sub (List.Sublist.cons_cons _ (List.nil_sublist _))⟩) ?_
            refine he 2 (by kernel_rfl) rfl ?_
            refine lappx [_, _, _, _] _ [_] (xs := []) (news := (rowsL l n).flatMap encR) el74 rfl rfl ⟨rfl, .inr ⟨_, 0, [], rfl, rfl, Nat.le_refl _, by decide, rfl, rfl⟩⟩ rfl (by rw [flatM_len encR_len, rowsL_len]) (fun h0 => by obtain ⟨b, o, hp, hbl, hm⟩ := hl.at h0; exact ⟨_, hp, fun w' hw => by rw [rowsL_flat]; exact mem_flat (by decide) (fun i => rfl) (fun i hi => (hm i hi).kept hw.below hbl)⟩) (fun u hu => by obtain ⟨r, _, hr⟩ := List.mem_flatMap.1 hu; exact encR_one r u hr) (by unfold maxLen; omega) (by omega) ?_
            intro g1 cap1 oe1 hown1
            rw [List.nil_append] at hown1
            obtain ⟨cur1, rfl⟩ := hown1.blk
            refine hnil (fun w hw => ⟨(), hw.sub (List.Sublist.cons_cons _ (List.nil_sublist _))⟩) ?_
            refine he 5 (by kernel_rfl) rfl ?_
            refine lapp [_, _, _, _] _ [_] el74 rfl rfl hown1 rfl (news := encR x) rfl (fun w' hw => by have := hw.mem (i := 2) rfl 0; simpa using this) (encR_one _) (by decide) (by unfold maxLen; omega) (by omega) ?_
            intro g2 cap2 oe2 hown2
            obtain ⟨cur2, rfl⟩ := hown2.blk
            have hown3 : OwnL 79 130 (.slice (some ⟨g2, 0, none⟩) (n + 1) cap2) (n + 1) ((rowsL (lx l n x) (n + 1)).flatMap encR) [⟨g2, cur2, 79⟩] := by rw [rowsL_lx, List.flatMap_append]; simpa using hown2
            refine hnil (fun w hw => ⟨(), hw.sub (List.Sublist.cons_cons _ (List.nil_sublist _))⟩) ?_
            refine he 9 (by kernel_rfl) rfl ?_
            refine lclm hb50 rfl (mc (show _ = Value.slice (some ⟨g2, 0, none⟩) (n + 1) cap2 by first | rfl | (simp only [Nat.zero_add]; rfl)) (mc rfl mn)) (fun w' hw => of_calls w' x.hd.item (some ⟨g2, 0, none⟩) (n + 1) cap2 (lx l n x) (by omega) (SlIn.sl ((hown3.slInL (fun a => rfl) (fun i hi => ⟨_, rowsL_get hi, rfl⟩)).mono (fun e he => by obtain rfl := List.mem_singleton.1 he; simp)) hw) (lx_all (fun i hi => (hx i hi).keptS hw) (hxx.keptS hw)) (lx_all kx kxx) (lx_all (Pr := fun r => r.hd.tn ≤ 20 ∧ r.ch.gn ≤ 20) hfx hfxx)) ?_
            rintro v75 Hn2 ⟨I2, rfl, hI2, hIn2⟩
            refine wl_tail 5 ?_
            refine hnil (fun w hw => ⟨(), hw.sub (List.Sublist.cons_cons _ (List.nil_sublist _))⟩) ?_
            refine hq1 10 rfl (by kernel_rfl) (by kernel_rfl) (by kernel_rfl) (fun c a w h => h) (.inr ⟨_, rfl⟩) (fun w hw => ⟨(), hw.sub (List.Sublist.cons_cons _ (List.nil_sublist _))⟩) (fun T => mv rfl) ?_
            refine hq1 11 rfl (by kernel_rfl) (by kernel_rfl) (by kernel_rfl) (fun c a w h => h) (.inl ⟨_, rfl⟩) (fun w hw => ⟨(), hw.sub (List.Sublist.cons_cons _ (List.nil_sublist _))⟩) (fun T => ext (vs := [.agg (encI I2).toArray, .bool (ofI x.hd.item (lx l n x) (n + 1)).2]) rfl rfl) ?_
            refine hq1 12 rfl (by kernel_rfl) (by kernel_rfl) (by kernel_rfl) (fun c a w h => h) (.inl ⟨_, rfl⟩) (fun w hw => ⟨(), hw.sub (List.Sublist.cons_cons _ (List.nil_sublist _))⟩) (fun T => ext (vs := [.agg (encI I2).toArray, .bool (ofI x.hd.item (lx l n x) (n + 1)).2]) rfl rfl) ?_
            refine he 14 (by kernel_rfl) rfl ?_
            refine lstw 3 rfl rfl rfl Try.sizeOf83 rfl rfl rfl ?_
            refine hnil (fun w hw => ⟨(), hw.sub (List.Sublist.cons_cons _ (List.nil_sublist _))⟩) ?_
            refine hq1 15 rfl (by kernel_rfl) (by kernel_rfl) (by kernel_rfl) (fun c a w h => h) (.inr ⟨_, rfl⟩) (fun w hw => ⟨(), hw.sub (List.Sublist.cons_cons _ (List.nil_sublist _))⟩) (fun T => asgb rfl) ?_
            refine hend (by kernel_rfl) ?_
            exact nCut (b24, I2, Hn2) ⟨hI2, hIn2⟩ ⟨rfl, rfl, rfl, rfl, rfl, trivial⟩ ⟨_, List.Perm.refl _, List.Sublist.cons_cons _ (List.Sublist.cons_cons _ (List.Sublist.cons _ (List.Sublist.cons_cons _ (List.Sublist.cons _ (List.Sublist.refl _)))))⟩
        · skip
          refine lal (zs := encI iz) Try.zeroValue83 rfl (fun b26 => ?_)
          refine wl_perm (ins_perm 2 _ _) ?_
          refine hnil (fun w hw => ⟨(), hw.sub (List.Sublist.cons_cons _ (List.nil_sublist _))⟩) ?_
          refine hem2 0 4 (by kernel_rfl) rfl rfl ?_ ?_
          · skip
            refine lbs Try.underlying74 rfl (bs74z) (fun b27 => ?_)
            refine wl_perm (ins_perm 3 _ _) ?_
            refine hnil (fun w hw => ⟨(), hw.sub (List.Sublist.cons_cons _ (List.nil_sublist _))⟩) ?_
            refine hem2 2 4 (by kernel_rfl) rfl rfl ?_ ?_
            · skip
              refine lappx [_, _, _] _ [_] (xs := []) (news := (rowsL l n).flatMap encR) el74 rfl rfl ⟨rfl, .inr ⟨_, 0, [], rfl, rfl, Nat.le_refl _, by decide, rfl, rfl⟩⟩ rfl (by rw [flatM_len encR_len, rowsL_len]) (fun h0 => by obtain ⟨b, o, hp, hbl, hm⟩ := hl.at h0; exact ⟨_, hp, fun w' hw => by rw [rowsL_flat]; exact mem_flat (by decide) (fun i => rfl) (fun i hi => (hm i hi).kept hw.below hbl)⟩) (fun u hu => by obtain ⟨r, _, hr⟩ := List.mem_flatMap.1 hu; exact encR_one r u hr) (by unfold maxLen; omega) (by omega) ?_
              intro g1 cap1 oe1 hown1
              rw [List.nil_append] at hown1
              obtain ⟨cur1, rfl⟩ := hown1.blk
              refine hnil (fun w hw => ⟨(), hw.sub (List.Sublist.cons_cons _ (List.nil_sublist _))⟩) ?_
              refine he 4 (by kernel_rfl) rfl ?_
              refine lbs Try.underlying74 rfl (bs74 x) (fun b28 => ?_)
              refine wl_perm (ins_perm 4 _ _) ?_
              refine hnil (fun w hw => ⟨(), hw.sub (List.Sublist.cons_cons _ (List.nil_sublist _))⟩) ?_
              refine he 5 (by kernel_rfl) rfl ?_
              refine lapp [_, _, _] _ [_] el74 rfl rfl hown1 rfl (news := encR x) rfl (fun w' hw => by have := hw.mem (i := 4) rfl 0; simpa using this) (encR_one _) (by decide) (by unfold maxLen; omega) (by omega) ?_
              intro g2 cap2 oe2 hown2
              obtain ⟨cur2, rfl⟩ := hown2.blk
              have hown3 : OwnL 79 130 (.slice (some ⟨g2, 0, none⟩) (n + 1) cap2) (n + 1) ((rowsL (lx l n x) (n + 1)).flatMap encR) [⟨g2, cur2, 79⟩] := by rw [rowsL_lx, List.flatMap_append]; simpa using hown2
              refine hnil (fun w hw => ⟨(), hw.sub (List.Sublist.cons_cons _ (List.nil_sublist _))⟩) ?_
              refine he 9 (by kernel_rfl) rfl ?_
              refine lclm hb50 rfl (mc (show _ = Value.slice (some ⟨g2, 0, none⟩) (n + 1) cap2 by first | rfl | (simp only [Nat.zero_add]; rfl)) (mc rfl mn)) (fun w' hw => of_calls w' x.hd.item (some ⟨g2, 0, none⟩) (n + 1) cap2 (lx l n x) (by omega) (SlIn.sl ((hown3.slInL (fun a => rfl) (fun i hi => ⟨_, rowsL_get hi, rfl⟩)).mono (fun e he => by obtain rfl := List.mem_singleton.1 he; simp)) hw) (lx_all (fun i hi => (hx i hi).keptS hw) (hxx.keptS hw)) (lx_all kx kxx) (lx_all (Pr := fun r => r.hd.tn ≤ 20 ∧ r.ch.gn ≤ 20) hfx hfxx)) ?_
              rintro v75 Hn2 ⟨I2, rfl, hI2, hIn2⟩
              refine wl_tail 5 ?_
              refine hnil (fun w hw => ⟨(), hw.sub (List.Sublist.cons_cons _ (List.nil_sublist _))⟩) ?_
              refine hq1 10 rfl (by kernel_rfl) (by kernel_rfl) (by kernel_rfl) (fun c a w h => h) (.inr ⟨_, rfl⟩) (fun w hw => ⟨(), hw.sub (List.Sublist.cons_cons _ (List.nil_sublist _))⟩) (fun T => mv rfl) ?_
              refine hq1 11 rfl (by kernel_rfl) (by kernel_rfl) (by kernel_rfl) (fun c a w h => h) (.inl ⟨_, rfl⟩) (fun w hw => ⟨(), hw.sub (List.Sublist.cons_cons _ (List.nil_sublist _))⟩) (fun T => ext (vs := [.agg (encI I2).toArray, .bool (ofI x.hd.item (lx l n x) (n + 1)).2]) rfl rfl) ?_
              refine hq1 12 rfl (by kernel_rfl) (by kernel_rfl) (by kernel_rfl) (fun c a w h => h) (.inl ⟨_, rfl⟩) (fun w hw => ⟨(), hw.sub (List.Sublist.cons_cons _ (List.nil_sublist _))⟩) (fun T => ext (vs := [.agg (encI I2).toArray, .bool (ofI x.hd.item (lx l n x) (n + 1)).2]) rfl rfl) ?_
              refine he 14 (by kernel_rfl) rfl ?_
              refine lstw 2 rfl rfl rfl Try.sizeOf83 rfl rfl rfl ?_
              refine hnil (fun w hw => ⟨(), hw.sub (List.Sublist.cons_cons _ (List.nil_sublist _))⟩) ?_
              refine hq1 15 rfl (by kernel_rfl) (by kernel_rfl) (by kernel_rfl) (fun c a w h => h) (.inr ⟨_, rfl⟩) (fun w hw => ⟨(), hw.sub (List.Sublist.cons_cons _ (List.nil_sublist _))⟩) (fun T => asgb rfl) ?_
              refine hend (by kernel_rfl) ?_
              exact nCut (b26, I2, Hn2) ⟨hI2, hIn2⟩ ⟨rfl, rfl, rfl, rfl, rfl, trivial⟩ ⟨_, List.Perm.refl _, List.Sublist.cons_cons _ (List.Sublist.cons_cons _ (List.Sublist.cons_cons _ (List.Sublist.cons _ (List.Sublist.cons _ (List.Sublist.refl _)))))⟩
            · skip
              refine lbs Try.underlying74 rfl (bs74 x) (fun b29 => ?_)
              refine wl_perm (ins_perm 4 _ _) ?_
              refine hnil (fun w hw => ⟨(), hw.sub (List.Sublist.cons_cons _ (List.nil_sublist _))⟩) ?_
              refine he 2 (by kernel_rfl) rfl ?_
              refine lappx [_, _, _] _ [_] (xs := []) (news := (rowsL l n).flatMap encR) el74 rfl rfl ⟨rfl, .inr ⟨_, 0, [], rfl, rfl, Nat.le_refl _, by decide, rfl, rfl⟩⟩ rfl (by rw [flatM_len encR_len, rowsL_len]) (fun h0 => by obtain ⟨b, o, hp, hbl, hm⟩ := hl.at h0; exact ⟨_, hp, fun w' hw => by rw [rowsL_flat]; exact mem_flat (by decide) (fun i => rfl) (fun i hi => (hm i hi).kept hw.below hbl)⟩) (fun u hu => by obtain ⟨r, _, hr⟩ := List.mem_flatMap.1 hu; exact encR_one r u hr) (by unfold maxLen; omega) (by omega) ?_
              intro g1 cap1 oe1 hown1
              rw [List.nil_append] at hown1
              obtain ⟨cur1, rfl⟩ := hown1.blk
              refine hnil (fun w hw => ⟨(), hw.sub (List.Sublist.cons_cons _ (List.nil_sublist _))⟩) ?_
              refine he 5 (by kernel_rfl) rfl ?_
              refine lapp [_, _, _] _ [_] el74 rfl rfl hown1 rfl (news := encR x) rfl (fun w' hw => by have := hw.mem (i := 4) rfl 0; simpa using this) (encR_one _) (by decide) (by unfold maxLen; omega) (by omega) ?_
              intro g2 cap2 oe2 hown2
              obtain ⟨cur2, rfl⟩ := hown2.blk
              have hown3 : OwnL 79 130 (.slice (some ⟨g2, 0, none⟩) (n + 1) cap2) (n + 1) ((rowsL (lx l n x) (n + 1)).flatMap encR) [⟨g2, cur2, 79⟩] := by rw [rowsL_lx, List.flatMap_append]; simpa using hown2
              refine hnil (fun w hw => ⟨(), hw.sub (List.Sublist.cons_cons _ (List.nil_sublist _))⟩) ?_
              refine he 9 (by kernel_rfl) rfl ?_
              refine lclm hb50 rfl (mc (show _ = Value.slice (some ⟨g2, 0, none⟩) (n + 1) cap2 by first | rfl | (simp only [Nat.zero_add]; rfl)) (mc rfl mn)) (fun w' hw => of_calls w' x.hd.item (some ⟨g2, 0, none⟩) (n + 1) cap2 (lx l n x) (by omega) (SlIn.sl ((hown3.slInL (fun a => rfl) (fun i hi => ⟨_, rowsL_get hi, rfl⟩)).mono (fun e he => by obtain rfl := List.mem_singleton.1 he; simp)) hw) (lx_all (fun i hi => (hx i hi).keptS hw) (hxx.keptS hw)) (lx_all kx kxx) (lx_all (Pr := fun r => r.hd.tn ≤ 20 ∧ r.ch.gn ≤ 20) hfx hfxx)) ?_
              rintro v75 Hn2 ⟨I2, rfl, hI2, hIn2⟩
              refine wl_tail 5 ?_
              refine hnil (fun w hw => ⟨(), hw.sub (List.Sublist.cons_cons _ (List.nil_sublist _))⟩) ?_
              refine hq1 10 rfl (by kernel_rfl) (by kernel_rfl) (by kernel_rfl) (fun c a w h => h) (.inr ⟨_, rfl⟩) (fun w hw => ⟨(), hw.sub (List.Sublist.cons_cons _ (List.nil_sublist _))⟩) (fun T => mv rfl) ?_
              refine hq1 11 rfl (by kernel_rfl) (by kernel_rfl) (by kernel_rfl) (fun c a w h => h) (.inl ⟨_, rfl⟩) (fun w hw => ⟨(), hw.sub (List.Sublist.cons_cons _ (List.nil_sublist _))⟩) (fun T => ext (vs := [.agg (encI I2).toArray, .bool (ofI x.hd.item (lx l n x) (n + 1)).2]) rfl rfl) ?_
              refine hq1 12 rfl (by kernel_rfl) (by kernel_rfl) (by kernel_rfl) (fun c a w h => h) (.inl ⟨_, rfl⟩) (fun w hw => ⟨(), hw.sub (List.Sublist.cons_cons _ (List.nil_sublist _))⟩) (fun T => ext (vs := [.agg (encI I2).toArray, .bool (ofI x.hd.item (lx l n x) (n + 1)).2]) rfl rfl) ?_
              refine he 14 (by kernel_rfl) rfl ?_
              refine lstw 2 rfl rfl rfl Try.sizeOf83 rfl rfl rfl ?_
              refine hnil (fun w hw => ⟨(), hw.sub (List.Sublist.cons_cons _ (List.nil_sublist _))⟩) ?_
              refine hq1 15 rfl (by kernel_rfl) (by kernel_rfl) (by kernel_rfl) (fun c a w h => h) (.inr ⟨_, rfl⟩) (fun w hw => ⟨(), hw.sub (List.Sublist.cons_cons _ (List.nil_sublist _))⟩) (fun T => asgb rfl) ?_
              refine hend (by kernel_rfl) ?_
              exact nCut (b26, I2, Hn2) ⟨hI2, hIn2⟩ ⟨rfl, rfl, rfl, rfl, rfl, trivial⟩ ⟨_, List.Perm.refl _, List.Sublist.cons_cons _ (List.Sublist.cons_cons _ (List.Sublist.cons_cons _ (List.Sublist.cons _ (List.Sublist.cons _ (List.Sublist.refl _)))))⟩
          · skip
            refine lbs Try.underlying74 rfl (bs74 x) (fun b30 => ?_)
            refine wl_perm (ins_perm 3 _ _) ?_
            refine hnil (fun w hw => ⟨(), hw.sub (List.Sublist.cons_cons _ (List.nil_sublist _))⟩) ?_
            refine he 0 (by kernel_rfl) rfl ?_
            refine lbs Try.underlying74 rfl (bs74z) (fun b31 => ?_)
            refine wl_perm (ins_perm 4 _ _) ?_
            refine hnil (fun w hw => ⟨(), hw.sub (List.Sublist.cons_cons _ (List.nil_sublist _))⟩) ?_
            refine he 2 (by kernel_rfl) rfl ?_
            refine lappx [_, _, _, _] _ [_] (xs := []) (news := (rowsL l n).flatMap encR) el74 rfl rfl ⟨rfl, .inr ⟨_, 0, [], rfl, rfl, Nat.le_refl _, by decide, rfl, rfl⟩⟩ rfl (by rw [flatM_len encR_len, rowsL_len]) (fun h0 => by obtain ⟨b, o, hp, hbl, hm⟩ := hl.at h0; exact ⟨_, hp, fun w' hw => by rw [rowsL_flat]; exact mem_flat (by decide) (fun i => rfl) (fun i hi => (hm i hi).kept hw.below hbl)⟩) (fun u hu => by obtain ⟨r, _, hr⟩ := List.mem_flatMap.1 hu; exact encR_one r u hr) (by unfold maxLen; omega) (by omega) ?_
            intro g1 cap1 oe1 hown1
            rw [List.nil_append] at hown1
            obtain ⟨cur1, rfl⟩ := hown1.blk
            refine hnil (fun w hw => ⟨(), hw.sub (List.Sublist.cons_cons _ (List.nil_sublist _))⟩) ?_
            refine he 5 (by kernel_rfl) rfl ?_
            refine lapp [_, _, _, _] _ [_] el74 rfl rfl hown1 rfl (news := encR x) rfl (fun w' hw => by have := hw.mem (i := 3) rfl 0; simpa using this) (encR_one _) (by decide) (by unfold maxLen; omega) (by omega) ?_
            intro g2 cap2 oe2 hown2
            obtain ⟨cur2, rfl⟩ := hown2.blk
            have hown3 : OwnL 79 130 (.slice (some ⟨g2, 0, none⟩) (n + 1) cap2) (n + 1) ((rowsL (lx l n x) (n + 1)).flatMap encR) [⟨g2, cur2, 79⟩] := by rw [rowsL_lx, List.flatMap_append]; simpa using hown2
            refine hnil (fun w hw => ⟨(), hw.sub (List.Sublist.cons_cons _ (List.nil_sublist _))⟩) ?_
            refine he 9 (by kernel_rfl) rfl ?_
            refine lclm hb50 rfl (mc (show _ = Value.slice (some ⟨g2, 0, none⟩) (n + 1) cap2 by first | rfl | (simp only [Nat.zero_add]; rfl)) (mc rfl mn)) (fun w' hw => of_calls w' x.hd.item (some ⟨g2, 0, none⟩) (n + 1) cap2 (lx l n x) (by omega) (SlIn.sl ((hown3.slInL (fun a => rfl) (fun i hi => ⟨_, rowsL_get hi, rfl⟩)).mono (fun e he => by obtain rfl := List.mem_singleton.1 he; simp)) hw) (lx_all (fun i hi => (hx i hi).keptS hw) (hxx.keptS hw)) (lx_all kx kxx) (lx_all (Pr := fun r => r.hd.tn ≤ 20 ∧ r.ch.gn ≤ 20) hfx hfxx)) ?_
            rintro v75 Hn2 ⟨I2, rfl, hI2, hIn2⟩
            refine wl_tail 5 ?_
            refine hnil (fun w hw => ⟨(), hw.sub (List.Sublist.cons_cons _ (List.nil_sublist _))⟩) ?_
            refine hq1 10 rfl (by kernel_rfl) (by kernel_rfl) (by kernel_rfl) (fun c a w h => h) (.inr ⟨_, rfl⟩) (fun w hw => ⟨(), hw.sub (List.Sublist.cons_cons _ (List.nil_sublist _))⟩) (fun T => mv rfl) ?_
            refine hq1 11 rfl (by kernel_rfl) (by kernel_rfl) (by kernel_rfl) (fun c a w h => h) (.inl ⟨_, rfl⟩) (fun w hw => ⟨(), hw.sub (List.Sublist.cons_cons _ (List.nil_sublist _))⟩) (fun T => ext (vs := [.agg (encI I2).toArray, .bool (ofI x.hd.item (lx l n x) (n + 1)).2]) rfl rfl) ?_
            refine hq1 12 rfl (by kernel_rfl) (by kernel_rfl) (by kernel_rfl) (fun c a w h => h) (.inl ⟨_, rfl⟩) (fun w hw => ⟨(), hw.sub (List.Sublist.cons_cons _ (List.nil_sublist _))⟩) (fun T => ext (vs := [.agg (encI I2).toArray, .bool (ofI x.hd.item (lx l n x) (n + 1)).2]) rfl rfl) ?_
            refine he 14 (by kernel_rfl) rfl ?_
            refine lstw 2 rfl rfl rfl Try.sizeOf83 rfl rfl rfl ?_
            refine hnil (fun w hw => ⟨(), hw.sub (List.Sublist.cons_cons _ (List.nil_sublist _))⟩) ?_
            refine hq1 15 rfl (by kernel_rfl) (by kernel_rfl) (by kernel_rfl) (fun c a w h => h) (.inr ⟨_, rfl⟩) (fun w hw => ⟨(), hw.sub (List.Sublist.cons_cons _ (List.nil_sublist _))⟩) (fun T => asgb rfl) ?_
            refine hend (by kernel_rfl) ?_
            exact nCut (b26, I2, Hn2) ⟨hI2, hIn2⟩ ⟨rfl, rfl, rfl, rfl, rfl, trivial⟩ ⟨_, List.Perm.refl _, List.Sublist.cons_cons _ (List.Sublist.cons_cons _ (List.Sublist.cons_cons _ (List.Sublist.cons _ (List.Sublist.cons _ (List.Sublist.refl _)))))⟩
      · rintro ⟨b8, I2, Hn2⟩ j ⟨hI2, hIn2⟩; replace hI2 : coreI I2 = coreI (ofI x.hd.item (lx l n x) (n + 1)).1 := hI2; replace hIn2 : ItIn Hn2 I2 := hIn2; have hMF := more_facts hkey kxx hF3; obtain ⟨hIh, hIk, hIa, hIm, hIv⟩ := coreI_f hI1; obtain ⟨h2h, h2k, h2a, h2m, h2v⟩ := coreI_f hI2; have hlat : laterH x.hd I.hd = laterH x.hd (ofI x.hd.item l n).1.hd := (show laterH x.hd (core I.hd) = laterH x.hd (core (ofI x.hd.item l n).1.hd) by rw [hIh]); have h2ok : HdOk I2.hd := core_ok h2h (of_ok (lx_all (Pr := fun r => RwOk r) kx kxx))
        refine nthen ?_
        refine cseq ?_
        refine cseq ?_
        refine creg ?_
        refine l1 (mvb rfl) ?_
        refine l1 (nt rfl) ?_
        refine lnil ?_
        refine nthen ?_
        refine ciff (bf rfl (by rw [hMF.has]; rfl)) ?_
        refine cskip ?_
        refine nthen ?_
        refine cseq ?_
        refine cseq ?_
        refine creg ?_
        refine l1 (mvb rfl) ?_
        refine l1 (mvb rfl) ?_
        refine l1g rfl (gwt rfl) (fun h => fa fa79_0 rfl) ?_
        refine l1g rfl (gwt rfl) (fun h => lda 0 Try.isAgg37 Try.sizeOf37 rfl (gvt h) (encR_hd _) rfl) ?_
        refine l1g rfl (gwt rfl) (fun h => fa fa83_1 rfl) ?_
        refine l1g rfl (gwt rfl) (fun h => lda 1 Try.isAgg37 Try.sizeOf37 rfl (gvt h) (encI_hd _) rfl) ?_
        refine l1g rfl (gwt rfl) (fun h => cl hb28 rfl (mc (gvt h) (mc (gvt h) mn)) (fun w hw => later_calls _ _ w)) ?_
        refine l1g rfl (gwt rfl) (fun h => nt (gvt h)) ?_
        refine l1 (pk_and rfl rfl rfl) ?_
        refine lnil ?_
        refine nthen ?_
        refine cif rfl (fun h4 => ?_) (fun h4 => ?_)
        · rw [hlat] at h4
          have ho := hMF.old (al h4) (by (have := al2 h4; simpa using this))
          refine cseq ?_
          refine creg ?_
          refine l1 (fa fa83_1 rfl) ?_
          refine l1 (lda 2 Try.isAgg37 Try.sizeOf37 rfl rfl (encI_hd _) rfl) ?_
          refine l1 (fa fa83_1 rfl) ?_
          refine l1 (lda 1 Try.isAgg37 Try.sizeOf37 rfl rfl (encI_hd _) rfl) ?_
          refine l1 (cl hb47 rfl (mc rfl (mc rfl mn)) (fun w hw => (by first | exact sameH_calls _ _ w (SlIn.sl hIn2.h (hw.sub (List.Sublist.cons _ (List.Sublist.cons _ (List.Sublist.cons _ (List.sublist_append_right _ _)))))) (SlIn.sl hIn.h (hw.sub (List.Sublist.cons _ (List.Sublist.cons _ (List.Sublist.cons _ (List.sublist_append_left _ _)))))) h2ok | exact sameH_calls _ _ w (SlIn.sl hIn2.h (hw.sub (List.Sublist.cons _ (List.Sublist.cons _ (List.Sublist.cons _ (List.sublist_append_right _ _)))))) (hxx.keptS hw).h h2ok))) ?_
          refine l1 (mvb rfl) ?_
          refine l1g rfl (gwt rfl) (fun h => fa fa83_2 rfl) ?_
          refine l1g rfl (gwt rfl) (fun h => ldc 2 Try.isAgg4 rfl (gvt h) rfl) ?_
          refine l1g rfl (gwt rfl) (fun h => fa fa83_2 rfl) ?_
          refine l1g rfl (gwt rfl) (fun h => ldc 1 Try.isAgg4 rfl (gvt h) rfl) ?_
          refine l1g rfl (gwt rfl) (fun h => eqlb Try.underlying4 (gvt h) (gvt h)) ?_
          refine l1 (pk_and rfl rfl rfl) ?_
          refine l1 (asgb rfl) ?_
          refine lnil ?_
          refine nthen ?_
          refine cret ?_
          refine nthenR ?_
          exact fin1b rfl rfl (by rw [same_core (h2h.trans ((congrArg core ho.1).trans hIh.symm)), h2k, hIk, ho.2]; simp)
        · rw [hlat] at h4
          have hnw := hMF.new h4
          refine cskip ?_
          refine nthen ?_
          refine cseq ?_
          refine cseq ?_
          refine creg ?_
          refine l1 (fa fa83_1 rfl) ?_
          refine l1 (lda 2 Try.isAgg37 Try.sizeOf37 rfl rfl (encI_hd _) rfl) ?_
          refine l1 (fa fa79_0 rfl) ?_
          refine l1 (lda 0 Try.isAgg37 Try.sizeOf37 rfl rfl (encR_hd _) rfl) ?_
          refine l1 (cl hb47 rfl (mc rfl (mc rfl mn)) (fun w hw => (by first | exact sameH_calls _ _ w (SlIn.sl hIn2.h (hw.sub (List.Sublist.cons _ (List.Sublist.cons _ (List.Sublist.cons _ (List.sublist_append_right _ _)))))) (SlIn.sl hIn.h (hw.sub (List.Sublist.cons _ (List.Sublist.cons _ (List.Sublist.cons _ (List.sublist_append_left _ _)))))) h2ok | exact sameH_calls _ _ w (SlIn.sl hIn2.h (hw.sub (List.Sublist.cons _ (List.Sublist.cons _ (List.Sublist.cons _ (List.sublist_append_right _ _)))))) (hxx.keptS hw).h h2ok))) ?_
          refine l1 (nt rfl) ?_
          refine l1 (mvb rfl) ?_
          refine l1g rfl (gwf rfl) (fun h => fa fa83_2 rfl) ?_
          refine l1g rfl (gwf rfl) (fun h => ldc 2 Try.isAgg4 rfl (gvt h) rfl) ?_
          refine l1g rfl (gwf rfl) (fun h => fa fa79_1 rfl) ?_
          refine l1g rfl (gwf rfl) (fun h => ldc 0 Try.isAgg4 rfl (gvt h) rfl) ?_
          refine l1g rfl (gwf rfl) (fun h => neqb Try.underlying4 (gvt h) (gvt h)) ?_
          refine l1 (pk_or rfl rfl rfl) ?_
          refine lnil ?_
          refine nthen ?_
          refine ciff (bf rfl (by rw [same_core (h2h.trans (congrArg core hnw.1)), h2k, hnw.2]; simp)) ?_
          refine cskip ?_
          refine nthen ?_
          refine cseq ?_
          refine cseq ?_
          refine creg ?_
          refine l1 (fa fa79_1 rfl) ?_
          refine l1 (ldc 0 Try.isAgg4 rfl rfl rfl) ?_
          refine l1 (nt rfl) ?_
          refine lnil ?_
          refine nthen ?_
          refine cif rfl (fun h5 => ?_) (fun h5 => ?_)
          · have hk : x.known = false := by (simpa using h5)
            have hbl := hMF.blank h4 hk
            refine cseq ?_
            refine creg ?_
            refine l1 (fa fa83_3 rfl) ?_
            refine l1 (ldc 2 Try.isAgg4 rfl rfl rfl) ?_
            refine l1 (fa fa83_3 rfl) ?_
            refine l1 (ldc 1 Try.isAgg4 rfl rfl rfl) ?_
            refine l1 (eqlb Try.underlying4 rfl rfl) ?_
            refine l1 (mvb rfl) ?_
            refine l1g rfl (gwt rfl) (fun h => fa fa83_6 rfl) ?_
            refine l1g rfl (gwt rfl) (fun h => ldc 2 Try.isAgg9 rfl (gvt h) rfl) ?_
            refine l1g rfl (gwt rfl) (fun h => fa fa83_6 rfl) ?_
            refine l1g rfl (gwt rfl) (fun h => ldc 1 Try.isAgg9 rfl (gvt h) rfl) ?_
            refine l1g rfl (gwt rfl) (fun h => eqls (gvt h) (gvt h)) ?_
            refine l1 (pk_and rfl rfl rfl) ?_
            refine l1 (asgb rfl) ?_
            refine lnil ?_
            refine nthen ?_
            refine cret ?_
            refine nthenR ?_
            exact fin1b rfl rfl (by rw [h2a, h2v, hIa, hIv, hbl.1, hbl.2]; simp)
          · have hk : x.known = true := by (simpa using h5)
            refine cskip ?_
            refine nthen ?_
            refine cseq ?_
            refine cseq ?_
            refine creg ?_
            refine l1 (fa fa79_2 rfl) ?_
            refine l1 (fa fa77_0 rfl) ?_
            refine l1 (ldc 0 Try.isAgg3 rfl rfl rfl) ?_
            refine l1 (eql rfl rfl) ?_
            refine lnil ?_
            refine nthen ?_
            refine cif rfl (fun h6 => ?_) (fun h6 => ?_)
            · have htg := hMF.tags h4 hk (dt h6)
              refine cseq ?_
              refine creg ?_
              refine l1 (fa fa83_3 rfl) ?_
              refine l1 (ldc 2 Try.isAgg4 rfl rfl rfl) ?_
              refine l1 (fa fa83_3 rfl) ?_
              refine l1 (ldc 1 Try.isAgg4 rfl rfl rfl) ?_
              refine l1 (eqlb Try.underlying4 rfl rfl) ?_
              refine l1 (mvb rfl) ?_
              refine l1g rfl (gwt rfl) (fun h => fa fa83_4 rfl) ?_
              refine l1g rfl (gwt rfl) (fun h => ldc 2 Try.isAgg9 rfl (gvt h) rfl) ?_
              refine l1g rfl (gwt rfl) (fun h => fa fa79_2 rfl) ?_
              refine l1g rfl (gwt rfl) (fun h => fa fa77_1 (gvt h)) ?_
              refine l1g rfl (gwt rfl) (fun h => ldc 0 Try.isAgg9 rfl (gvt h) rfl) ?_
              refine l1g rfl (gwt rfl) (fun h => eqls (gvt h) (gvt h)) ?_
              refine l1 (pk_and rfl rfl rfl) ?_
              refine l1 (asgb rfl) ?_
              refine lnil ?_
              refine nthen ?_
              refine cret ?_
              refine nthenR ?_
              exact fin1b rfl rfl (by rw [h2a, h2m, hIa, htg.1, htg.2]; simp)
            · have hlf := hMF.life h4 hk (df h6)
              refine cskip ?_
              refine nthen ?_
              refine cseq ?_
              refine creg ?_
              refine l1 (fa fa83_3 rfl) ?_
              refine l1 (ldc 2 Try.isAgg4 rfl rfl rfl) ?_
              refine l1 (fa fa79_2 rfl) ?_
              refine l1 (fa fa77_0 rfl) ?_
              refine l1 (ldc 0 Try.isAgg3 rfl rfl rfl) ?_
              refine l1 (eql rfl rfl) ?_
              refine l1 (eqlb Try.underlying4 rfl rfl) ?_
              refine l1 (mvb rfl) ?_
              refine l1g rfl (gwt rfl) (fun h => fa fa83_6 rfl) ?_
              refine l1g rfl (gwt rfl) (fun h => ldc 2 Try.isAgg9 rfl (gvt h) rfl) ?_
              refine l1g rfl (gwt rfl) (fun h => fa fa79_2 rfl) ?_
              refine l1g rfl (gwt rfl) (fun h => fa fa77_3 (gvt h)) ?_
              refine l1g rfl (gwt rfl) (fun h => ldc 0 Try.isAgg9 rfl (gvt h) rfl) ?_
              refine l1g rfl (gwt rfl) (fun h => eqls (gvt h) (gvt h)) ?_
              refine l1 (pk_and rfl rfl rfl) ?_
              refine l1 (mvb rfl) ?_
              refine l1g rfl (gwt rfl) (fun h => fa fa83_4 rfl) ?_
              refine l1g rfl (gwt rfl) (fun h => ldc 2 Try.isAgg9 rfl (gvt h) rfl) ?_
              refine l1g rfl (gwt rfl) (fun h => fa fa79_2 rfl) ?_
              refine l1g rfl (gwt rfl) (fun h => fa fa77_1 (gvt h)) ?_
              refine l1g rfl (gwt rfl) (fun h => ldc 0 Try.isAgg9 rfl (gvt h) rfl) ?_
              refine l1g rfl (gwt rfl) (fun h => eqls (gvt h) (gvt h)) ?_
              refine l1 (pk_and rfl rfl rfl) ?_
              refine l1 (asgb rfl) ?_
              refine lnil ?_
              refine nthen ?_
              refine cret ?_
              exact fin1b rfl rfl (by rw [h2a, h2v, h2m, hlf.1, hlf.2.1, hlf.2.2]; simp)
end Go.Proofs.Ytkdbjhlkahkobaa
