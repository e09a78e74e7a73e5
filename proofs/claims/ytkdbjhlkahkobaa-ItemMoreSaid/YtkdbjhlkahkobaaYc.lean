/- walks, printed by a program of ours -/
import Derived.Test.YtkdbjhlkahkobaaTy
import Derived.Test.YtkdbjhlkahkobaaDef
import Derived.Test.YtkdbjhlkahkobaaYb
import Derived.Test.YtkdbjhlkahkobaaRw2
import Derived.Test.YtkdbjhlkahkobaaHeld
namespace Go.Proofs.Ytkdbjhlkahkobaa
open Jal Go.RowKit
set_option maxRecDepth 100000
set_option maxHeartbeats 2000000 in
theorem made_item_calls (w : World) (tok : Nat → Int) (p : Option Addr) (n c : Nat) (l : Nat → Rw) (hn : n ≤ 100) (hl : Sl w p n 130 (fun i => encR (l i))) (hx : ∀ i, i < n → RwIn w (l i)) (kx : ∀ i, i < n → (l i).hd.tn ≤ 20 ∧ (l i).ch.gn ≤ 20) : Calls Try.prog 87 #[.agg (arr .u8 16 tok).toArray, .slice p n c] w (RetM (fun v Hn => ∃ I : It, v = .agg (encI I).toArray ∧ coreI I = coreI (madeI tok (rowsL l n)) ∧ ItIn Hn I) w) := by
  refine fn_calls (n := 60) Try.func87 rfl rfl (lb rfl) ?_
  obtain ⟨A, hA⟩ : ∃ A, A = latR anyR (rowsL l n) := ⟨_, rfl⟩
  obtain ⟨K, hK⟩ : ∃ K, K = latR knownR (rowsL l n) := ⟨_, rfl⟩
  obtain ⟨V, hV⟩ : ∃ V, V = latR valuedR (rowsL l n) := ⟨_, rfl⟩
  have hAx : RwIn w A.1 := by rw [hA]; exact lat_all ⟨⟨.inl rfl⟩, ⟨.inl rfl⟩⟩ hx
  have hKx : RwIn w K.1 := by rw [hK]; exact lat_all ⟨⟨.inl rfl⟩, ⟨.inl rfl⟩⟩ hx
  have hA20 : A.1.hd.tn ≤ 20 := by rw [hA]; exact lat_all (Pr := fun r => r.hd.tn ≤ 20) (by decide) (fun i hi => (kx i hi).1)
  have hK20 : K.1.ch.gn ≤ 20 := by rw [hK]; exact lat_all (Pr := fun r => r.ch.gn ≤ 20) (by decide) (fun i hi => (kx i hi).2)
  refine cseq ?_
  refine creg ?_
  refine lbxa rfl (fun b1 => ?_)
  refine lal (zs := encI iz) Try.zeroValue83 rfl (fun b2 => ?_)
  refine lnil ?_
  refine nthen ?_
  refine cseq ?_
  refine creg ?_
  refine l1 (mvs rfl) ?_
  refine l1 (cl (v := .tuple #[.agg (encR A.1).toArray, .bool A.2]) hb114 rfl (mc rfl (mc rfl mn)) (fun w' hw => by rw [hA]; exact latest_calls w' p n c l hn (Sl.keptS hl hw) 115 anyR hb115 (fun i hi w2 H h2 => any_calls (l i) w2))) ?_
  refine l1 (mv rfl) ?_
  refine l1 (ext (vs := [.agg (encR A.1).toArray, .bool A.2]) rfl rfl) ?_
  refine l1 (ext (vs := [.agg (encR A.1).toArray, .bool A.2]) rfl rfl) ?_
  refine lal (zs := encR rz) Try.zeroValue79 rfl (fun b3 => ?_)
  refine lstw 2 rfl rfl rfl Try.sizeOf79 rfl rfl rfl ?_
  refine l1 (asgb rfl) ?_
  refine lnil ?_
  refine nthen ?_
  refine cseq ?_
  refine creg ?_
  refine l1 (mvs rfl) ?_
  refine l1 (cl (v := .tuple #[.agg (encR K.1).toArray, .bool K.2]) hb114 rfl (mc rfl (mc rfl mn)) (fun w' hw => by rw [hK]; exact latest_calls w' p n c l hn (Sl.keptS hl hw) 116 knownR hb116 (fun i hi w2 H h2 => known_calls (l i) w2))) ?_
  refine l1 (mv rfl) ?_
  refine l1 (ext (vs := [.agg (encR K.1).toArray, .bool K.2]) rfl rfl) ?_
  refine l1 (ext (vs := [.agg (encR K.1).toArray, .bool K.2]) rfl rfl) ?_
  refine lal (zs := encR rz) Try.zeroValue79 rfl (fun b4 => ?_)
  refine lstw 3 rfl rfl rfl Try.sizeOf79 rfl rfl rfl ?_
  refine l1 (asgb rfl) ?_
  refine lnil ?_
  refine nthen ?_
  refine cseq ?_
  refine creg ?_
  refine l1 (mvs rfl) ?_
  refine l1 (cl (v := .tuple #[.agg (encR V.1).toArray, .bool V.2]) hb114 rfl (mc rfl (mc rfl mn)) (fun w' hw => by rw [hV]; exact latest_calls w' p n c l hn (Sl.keptS hl hw) 117 valuedR hb117 (fun i hi w2 H h2 => valued_calls (l i) w2))) ?_
  refine l1 (mv rfl) ?_
  refine l1 (ext (vs := [.agg (encR V.1).toArray, .bool V.2]) rfl rfl) ?_
  refine l1 (ext (vs := [.agg (encR V.1).toArray, .bool V.2]) rfl rfl) ?_
  refine lal (zs := encR rz) Try.zeroValue79 rfl (fun b5 => ?_)
  refine lstw 4 rfl rfl rfl Try.sizeOf79 rfl rfl rfl ?_
  refine l1 (asgb rfl) ?_
  refine lnil ?_
  refine nthen ?_
  refine cseq ?_
  refine creg ?_
  refine l1 (ldw 0 Try.isAgg34 Try.sizeOf34 rfl rfl rfl) ?_
  refine l1 (fa fa79_0 rfl) ?_
  refine l1 (lda 2 Try.isAgg37 Try.sizeOf37 rfl rfl (encR_hd _) rfl) ?_
  refine l1 (fa fa79_1 rfl) ?_
  refine l1 (ldc 2 Try.isAgg4 rfl rfl rfl) ?_
  refine l1 (fa fa79_2 rfl) ?_
  refine l1 (fa fa77_1 rfl) ?_
  refine l1 (ldc 3 Try.isAgg9 rfl rfl rfl) ?_
  refine l1 (bldk (zs := encI ⟨tok, A.1.hd, A.1.known, false, K.1.ch.name, none, 0, 0, fun _ => ByteArray.empty, ByteArray.empty⟩) rfl (bk83 _ _ _ _)) ?_
  refine lal (zs := encI iz) Try.zeroValue83 rfl (fun b6 => ?_)
  refine lstw 5 rfl rfl rfl Try.sizeOf83 rfl rfl rfl ?_
  refine lnil ?_
  refine nthen ?_
  refine cseq ?_
  refine creg ?_
  refine l1 (fa fa83_1 rfl) ?_
  refine l1 (fa fa37_7 rfl) ?_
  refine l1 (ldc 5 Try.isAgg35 rfl rfl rfl) ?_
  refine lclm hb82 rfl (mc rfl mn) (fun w' hw => clone_calls w' _ _ _ _ hA20 (Sl.keptS hAx.h hw)) ?_
  rintro v39 Hn ⟨p', c', rfl, htk⟩
  refine l1 (fa fa83_1 rfl) ?_
  refine l1 (fa fa37_7 rfl) ?_
  refine lsts 5 rfl rfl rfl Try.sizeOf35 (lb rfl) (encI_setTok _ p' c') ?_
  refine lnil ?_
  refine nthen ?_
  refine cseq ?_
  refine cseq ?_
  refine creg ?_
  refine l1 (mvb rfl) ?_
  refine l1 (mvb rfl) ?_
  refine l1g rfl (gwt rfl) (fun h => fa fa79_2 rfl) ?_
  refine l1g rfl (gwt rfl) (fun h => fa fa77_0 (gvt h)) ?_
  refine l1g rfl (gwt rfl) (fun h => ldc 4 Try.isAgg3 rfl (gvt h) rfl) ?_
  refine l1g rfl (gwt rfl) (fun h => eql (gvt h) rfl) ?_
  refine l1 (pk_and rfl rfl rfl) ?_
  refine lnil ?_
  refine nthen ?_
  refine cif rfl (fun h1 => ?_) (fun h1 => ?_)
  · skip
    refine cregH (fun x : List Value => ⟨b1, arr .u8 16 tok, 34⟩ :: ⟨b2, encI iz, 83⟩ :: ⟨b3, encR A.1, 79⟩ :: ⟨b4, encR K.1, 79⟩ :: ⟨b5, encR V.1, 79⟩ :: ⟨b6, x, 83⟩ :: []) 13 mo rfl ?_
    refine hq1 0 rfl (by kernel_rfl) (by kernel_rfl) (by kernel_rfl) (fun c a w h => h) (.inl ⟨_, rfl⟩) (fun w hw => ⟨_, hw.sub (List.Sublist.cons_cons _ (List.Sublist.cons_cons _ (List.Sublist.cons_cons _ (List.Sublist.cons_cons _ (List.Sublist.cons_cons _ (List.Sublist.cons_cons _ (List.nil_sublist _)))))))⟩) (fun T => fa fa79_2 rfl) ?_
    refine hq1 1 rfl (by kernel_rfl) (by kernel_rfl) (by kernel_rfl) (fun c a w h => h) (.inl ⟨_, rfl⟩) (fun w hw => ⟨_, hw.sub (List.Sublist.cons_cons _ (List.Sublist.cons_cons _ (List.Sublist.cons_cons _ (List.Sublist.cons_cons _ (List.Sublist.cons_cons _ (List.Sublist.cons_cons _ (List.nil_sublist _)))))))⟩) (fun T => fa fa77_3 rfl) ?_
    refine hq1 2 rfl (by kernel_rfl) (by kernel_rfl) (by kernel_rfl) (fun c a w h => h) (.inl ⟨_, rfl⟩) (fun w hw => ⟨_, hw.sub (List.Sublist.cons_cons _ (List.Sublist.cons_cons _ (List.Sublist.cons_cons _ (List.Sublist.cons_cons _ (List.Sublist.cons_cons _ (List.Sublist.cons_cons _ (List.nil_sublist _)))))))⟩) (fun T => ldc 4 Try.isAgg9 rfl rfl rfl) ?_
    refine hq1 3 rfl (by kernel_rfl) (by kernel_rfl) (by kernel_rfl) (fun c a w h => h) (.inl ⟨_, rfl⟩) (fun w hw => ⟨_, hw.sub (List.Sublist.cons_cons _ (List.Sublist.cons_cons _ (List.Sublist.cons_cons _ (List.Sublist.cons_cons _ (List.Sublist.cons_cons _ (List.Sublist.cons_cons _ (List.nil_sublist _)))))))⟩) (fun T => fa fa79_2 rfl) ?_
    refine hq1 4 rfl (by kernel_rfl) (by kernel_rfl) (by kernel_rfl) (fun c a w h => h) (.inl ⟨_, rfl⟩) (fun w hw => ⟨_, hw.sub (List.Sublist.cons_cons _ (List.Sublist.cons_cons _ (List.Sublist.cons_cons _ (List.Sublist.cons_cons _ (List.Sublist.cons_cons _ (List.Sublist.cons_cons _ (List.nil_sublist _)))))))⟩) (fun T => fa fa77_2 rfl) ?_
    refine hq1 5 rfl (by kernel_rfl) (by kernel_rfl) (by kernel_rfl) (fun c a w h => h) (.inl ⟨_, rfl⟩) (fun w hw => ⟨_, hw.sub (List.Sublist.cons_cons _ (List.Sublist.cons_cons _ (List.Sublist.cons_cons _ (List.Sublist.cons_cons _ (List.Sublist.cons_cons _ (List.Sublist.cons_cons _ (List.nil_sublist _)))))))⟩) (fun T => ldc 3 Try.isAgg75 rfl rfl rfl) ?_
    refine hq1 7 rfl (by kernel_rfl) (by kernel_rfl) (by kernel_rfl) (fun c a w h => h) (.inl ⟨_, rfl⟩) (fun w hw => ⟨_, hw.sub (List.Sublist.cons_cons _ (List.Sublist.cons_cons _ (List.Sublist.cons_cons _ (List.Sublist.cons_cons _ (List.Sublist.cons_cons _ (List.Sublist.cons_cons _ (List.nil_sublist _)))))))⟩) (fun T => fa fa83_3 rfl) ?_
    refine he 6 (by kernel_rfl) rfl ?_
    refine lclm hb118 rfl (mc rfl mn) (fun w' hw => cls_calls w' _ _ _ K.1.ch.tag (by omega) (Sl.keptS hKx.c hw)) ?_
    rintro v55 Hg hog
    obtain ⟨pg, cg, rfl⟩ := hog.form
    refine wl_tail 6 ?_
    refine hnil (fun w hw => ⟨_, hw.sub (List.Sublist.cons_cons _ (List.Sublist.cons_cons _ (List.Sublist.cons_cons _ (List.Sublist.cons_cons _ (List.Sublist.cons_cons _ (List.Sublist.cons_cons _ (List.nil_sublist _)))))))⟩) ?_
    refine he 8 (by kernel_rfl) rfl ?_
    refine lstb 5 rfl rfl rfl Try.sizeOf4 (lb rfl) (encI_setAlive _ true) ?_
    refine hnil (fun w hw => ⟨_, hw.sub (List.Sublist.cons_cons _ (List.Sublist.cons_cons _ (List.Sublist.cons_cons _ (List.Sublist.cons_cons _ (List.Sublist.cons_cons _ (List.Sublist.cons_cons _ (List.nil_sublist _)))))))⟩) ?_
    refine hq1 9 rfl (by kernel_rfl) (by kernel_rfl) (by kernel_rfl) (fun c a w h => h) (.inl ⟨_, rfl⟩) (fun w hw => ⟨_, hw.sub (List.Sublist.cons_cons _ (List.Sublist.cons_cons _ (List.Sublist.cons_cons _ (List.Sublist.cons_cons _ (List.Sublist.cons_cons _ (List.Sublist.cons_cons _ (List.nil_sublist _)))))))⟩) (fun T => fa fa83_6 rfl) ?_
    refine he 10 (by kernel_rfl) rfl ?_
    refine lstt 5 rfl rfl rfl Try.sizeOf9 (lb rfl) (encI_setValue _ V.1.ch.value) ?_
    refine hnil (fun w hw => ⟨_, hw.sub (List.Sublist.cons_cons _ (List.Sublist.cons_cons _ (List.Sublist.cons_cons _ (List.Sublist.cons_cons _ (List.Sublist.cons_cons _ (List.Sublist.cons_cons _ (List.nil_sublist _)))))))⟩) ?_
    refine hq1 11 rfl (by kernel_rfl) (by kernel_rfl) (by kernel_rfl) (fun c a w h => h) (.inl ⟨_, rfl⟩) (fun w hw => ⟨_, hw.sub (List.Sublist.cons_cons _ (List.Sublist.cons_cons _ (List.Sublist.cons_cons _ (List.Sublist.cons_cons _ (List.Sublist.cons_cons _ (List.Sublist.cons_cons _ (List.nil_sublist _)))))))⟩) (fun T => fa fa83_5 rfl) ?_
    refine he 12 (by kernel_rfl) rfl ?_
    refine lsts 5 rfl rfl rfl Try.sizeOf75 (lb rfl) (encI_setTags _ pg K.1.ch.gn cg K.1.ch.tag) ?_
    refine hnil (fun w hw => ⟨_, hw.sub (List.Sublist.cons_cons _ (List.Sublist.cons_cons _ (List.Sublist.cons_cons _ (List.Sublist.cons_cons _ (List.Sublist.cons_cons _ (List.Sublist.cons_cons _ (List.nil_sublist _)))))))⟩) ?_
    refine hend (by kernel_rfl) ?_
    refine nthen ?_
    refine cseq ?_
    refine creg ?_
    refine l1 (ldw 5 Try.isAgg83 Try.sizeOf83 rfl rfl rfl) ?_
    refine lstw 1 rfl rfl rfl Try.sizeOf83 rfl rfl rfl ?_
    refine lnil ?_
    refine nthen ?_
    refine cret ?_
    exact finM _ (Hn ++ Hg) (rv1 rfl (rvc 1 Try.isAgg83 Try.sizeOf83 rfl rfl rfl rfl)) ⟨_, List.Perm.refl _, (List.Sublist.cons _ (List.Sublist.cons _ (List.Sublist.cons _ (List.Sublist.cons _ (List.Sublist.cons _ (List.Sublist.cons _ (List.Sublist.refl _)))))))⟩ ⟨_, rfl, by unfold madeI; rw [← hA, ← hK, ← hV, h1]; rfl, ⟨htk.mono (fun e he => List.mem_append_left _ he), (hog.slInL (fun a => rfl) (fun i hi => ⟨i, List.getElem?_range hi, rfl⟩)).mono (fun e he => List.mem_append_right _ he)⟩⟩
  · skip
    refine cskip ?_
    refine nthen ?_
    refine cseq ?_
    refine creg ?_
    refine l1 (ldw 5 Try.isAgg83 Try.sizeOf83 rfl rfl rfl) ?_
    refine lstw 1 rfl rfl rfl Try.sizeOf83 rfl rfl rfl ?_
    refine lnil ?_
    refine nthen ?_
    refine cret ?_
    exact finM _ Hn (rv1 rfl (rvc 1 Try.isAgg83 Try.sizeOf83 rfl rfl rfl rfl)) ⟨_, List.Perm.refl _, (List.Sublist.cons _ (List.Sublist.cons _ (List.Sublist.cons _ (List.Sublist.cons _ (List.Sublist.cons _ (List.Sublist.cons _ (List.Sublist.refl _)))))))⟩ ⟨_, rfl, by unfold madeI; rw [← hA, ← hK, ← hV, h1]; rfl, ⟨htk, .inl rfl⟩⟩
end Go.Proofs.Ytkdbjhlkahkobaa
