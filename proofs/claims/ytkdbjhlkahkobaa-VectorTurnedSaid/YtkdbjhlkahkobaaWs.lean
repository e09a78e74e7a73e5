/- walks, printed by a program of ours -/
import Derived.Test.YtkdbjhlkahkobaaTy
import Derived.Test.YtkdbjhlkahkobaaDef
import Derived.Test.YtkdbjhlkahkobaaWt
import Derived.Test.YtkdbjhlkahkobaaStp
namespace Go.Proofs.Ytkdbjhlkahkobaa
open Jal Go.RowKit
set_option maxRecDepth 100000
theorem eqV_refl (v : Vec) : eqV v v = true := eqV_iff.2 fun _ _ => rfl

set_option maxHeartbeats 2000000 in
theorem steps_law (v : Vec) (w : World) (p : Option Addr) (n c : Nat) (l : Nat → Hd) (hn : (n : Int) ≤ 9223372036854775807) (hl : Sl w p n 125 (fun i => encH (l i))) (hx : ∀ i, i < n → HdIn w (l i)) (kx : ∀ i, i < n → HdOk (l i)) : Calls Try.prog 11 #[.agg (encV v).toArray, .slice p n c] w (Ret (.bool true) w) := by
  refine fn_calls (n := 84) Try.func11 rfl rfl (lb rfl) ?_
  refine cseq ?_
  refine creg ?_
  refine lbxa rfl (fun b1 => ?_)
  refine l1 (asgb rfl) ?_
  refine lnil ?_
  refine nthen ?_
  refine cseq ?_
  refine cseq ?_
  refine creg ?_
  refine l1 (cl hb24 rfl mn (fun w hw => awake14_calls w)) ?_
  refine l1 (nt rfl) ?_
  refine l1 (mvb rfl) ?_
  refine l1g rfl (gwf rfl) (fun h => mvs rfl) ?_
  refine l1g rfl (gwf rfl) (fun h => cl hb44 rfl (mc (gvt h) (mc rfl mn)) (fun w' hw => few_calls w' _ _ _ l _ hn (Sl.keptS hl hw))) ?_
  refine l1g rfl (gwf rfl) (fun h => nt (gvt h)) ?_
  refine l1 (pk_or rfl rfl rfl) ?_
  refine lnil ?_
  refine nthen ?_
  refine cif rfl (fun h1 => ?_) (fun h1 => ?_)
  · skip
    refine cseq ?_
    refine creg ?_
    refine l1 (cl hb24 rfl mn (fun w hw => awake14_calls w)) ?_
    refine l1 (asgb rfl) ?_
    refine lnil ?_
    refine nthen ?_
    refine cret ?_
    refine nthenR ?_
    exact fin1b rfl rfl (by first | rfl | (rw [hend, eqV_refl, hgr, hms, ho2, ru (by omega) (by omega)]; simp))
  · have hn30 : n ≤ 30 := by (simp [fewB] at h1; omega)
    have hn40 : n ≤ 40 := by omega
    refine cskip ?_
    refine nthen ?_
    refine cseq ?_
    refine creg ?_
    refine l1 (ldw 0 Try.isAgg24 Try.sizeOf24 rfl rfl rfl) ?_
    refine l1 (mvs rfl) ?_
    refine lclm hb45 rfl (mc rfl (mc rfl mn)) (fun w' hw => order_calls w' v _ _ _ _ hn40 (Sl.keptS hl hw) (fun i hi => Sl.keptS (hx i hi) hw) kx) ?_
    rintro r1 Hn1 ⟨⟨v1, O1, ov1, oe1, tl1⟩, rfl, rfl, hS1, hn1⟩
    obtain ⟨p1, c1, hov1⟩ := hS1.own.form
    obtain rfl : ov1 = .slice p1 O1.length c1 := hov1
    have hs1 := ord_slIn hS1
    have hlen1 := path_len hS1.path
    rw [List.length_map, List.length_range] at hlen1
    have hO1n : O1.length ≤ 30 := by (simp only at hlen1; omega)
    refine l1 (mv rfl) ?_
    refine l1 (ext (vs := [.slice p1 O1.length c1, .agg (encV v1).toArray]) rfl rfl) ?_
    refine l1 (ext (vs := [.slice p1 O1.length c1, .agg (encV v1).toArray]) rfl rfl) ?_
    refine lal (zs := encV (fun _ => 0)) Try.zeroValue24 rfl (fun b2 => ?_)
    refine wl_perm (ins_perm 1 _ _) ?_
    refine l1 (asg rfl) ?_
    refine lstw 1 rfl rfl rfl Try.sizeOf24 rfl rfl rfl ?_
    refine lnil ?_
    refine nthen ?_
    refine cseq ?_
    refine creg ?_
    refine l1 (ldw 1 Try.isAgg24 Try.sizeOf24 rfl rfl rfl) ?_
    refine l1 (mvs rfl) ?_
    refine lclm hb45 rfl (mc rfl (mc rfl mn)) (fun w' hw => order_calls w' v1 _ _ _ _ hn40 (Sl.keptS hl hw) (fun i hi => Sl.keptS (hx i hi) hw) kx) ?_
    rintro r2 Hn2 ⟨⟨v2, O2, ov2, oe2, tl2⟩, rfl, rfl, hS2, hn2⟩
    obtain ⟨p2, c2, hov2⟩ := hS2.own.form
    obtain rfl : ov2 = .slice p2 O2.length c2 := hov2
    obtain ⟨ho2, hv2⟩ := path_none hS2.path hn1
    replace ho2 : O2 = [] := ho2
    replace hv2 : v2 = v1 := hv2
    subst v2
    refine l1 (mv rfl) ?_
    refine l1 (ext (vs := [.slice p2 O2.length c2, .agg (encV v1).toArray]) rfl rfl) ?_
    refine l1 (ext (vs := [.slice p2 O2.length c2, .agg (encV v1).toArray]) rfl rfl) ?_
    refine lal (zs := encV (fun _ => 0)) Try.zeroValue24 rfl (fun b3 => ?_)
    refine wl_perm (ins_perm 2 _ _) ?_
    refine l1 (asg rfl) ?_
    refine lstw 2 rfl rfl rfl Try.sizeOf24 rfl rfl rfl ?_
    refine lnil ?_
    refine nthen ?_
    refine cseq ?_
    refine creg ?_
    refine l1 (ldw 0 Try.isAgg24 Try.sizeOf24 rfl rfl rfl) ?_
    refine lal (zs := encV (fun _ => 0)) Try.zeroValue24 rfl (fun b4 => ?_)
    refine wl_perm (ins_perm 3 _ _) ?_
    refine lstw 3 rfl rfl rfl Try.sizeOf24 rfl rfl rfl ?_
    refine lnil ?_
    refine nthen ?_
    refine cseq ?_
    refine cseq ?_
    refine creg ?_
    refine l1 (asgi rfl) ?_
    refine lnil ?_
    refine nthen ?_
    refine cblock ?_
    refine cloopI (σ := Nat) (fun s => [(2, .pointer (some ⟨b1, 0, none⟩)), (5, .slice p1 O1.length c1), (6, .pointer (some ⟨b2, 0, none⟩)), (7, .slice p2 O2.length c2), (8, .pointer (some ⟨b3, 0, none⟩)), (9, .pointer (some ⟨b4, 0, none⟩)), (10, .int .i64 (s : Int))]) (fun s => ([⟨b1, encV v, 24⟩, ⟨b2, encV v1, 24⟩, ⟨b3, encV v1, 24⟩, ⟨b4, encV (runV v (O1.take s)), 24⟩] ++ ((oe1 ++ tl1) ++ (oe2 ++ tl2)))) (fun s => s ≤ O1.length) (fun s => O1.length - s) 0 (Nat.zero_le _) ⟨rfl, rfl, rfl, rfl, rfl, rfl, rfl, trivial⟩ (List.Sublist.refl _) ?_
    rintro i j hi
    show WC _ _ _ (⟨b1, encV v, 24⟩ :: ⟨b2, encV v1, 24⟩ :: ⟨b3, encV v1, 24⟩ :: ⟨b4, encV (runV v (O1.take i)), 24⟩ :: ((oe1 ++ tl1) ++ (oe2 ++ tl2))) _ _ (over j [(2, .pointer (some ⟨b1, 0, none⟩)), (5, .slice p1 O1.length c1), (6, .pointer (some ⟨b2, 0, none⟩)), (7, .slice p2 O2.length c2), (8, .pointer (some ⟨b3, 0, none⟩)), (9, .pointer (some ⟨b4, 0, none⟩)), (10, .int .i64 (i : Int))])
    replace hi : i ≤ O1.length := hi
    refine cseq ?_
    refine cseq ?_
    refine creg ?_
    refine l1 (mvi rfl) ?_
    refine l1 (mvs rfl) ?_
    refine l1 (lens sl54 rfl rfl) ?_
    refine l1 (lss rfl rfl) ?_
    refine lnil ?_
    refine nthen ?_
    refine cif rfl (fun h2 => ?_) (fun h2 => ?_)
    · have hlt : i < O1.length := by (have := dt h2; omega)
      obtain ⟨bo, hp1⟩ := SlIn_some hs1 hlt
      have hO := getD_get hlt
      have hrd := path_ready hS1.path i _ hO
      obtain ⟨htk, hko⟩ := hS1.tok _ (getD_mem hlt)
      have hw6 := formed_w (ready_formed hrd).1
      refine cskip ?_
      refine nthen ?_
      refine cseq ?_
      refine cblock ?_
      refine cseq ?_
      refine cseq ?_
      refine cregq mo (by kernel_rfl) ?_
      refine q1 (ldw 3 Try.isAgg24 Try.sizeOf24 rfl rfl rfl) ?_
      refine q1 (mvs rfl) ?_
      refine q1 (mvi rfl) ?_
      refine q1 (isp sl54 hp1 rfl rfl (by omega) (by omega)) ?_
      refine q1 (ldam (vs := encH (O1.getD i hz)) Try.isAgg37 Try.sizeOf37 rfl rfl (fun w' hw => (SlIn_mem hs1 hp1 (hw.sub (List.Sublist.cons _ (List.Sublist.cons _ (List.Sublist.cons _ (List.Sublist.cons _ (List.Sublist.trans (List.sublist_append_left oe1 tl1) (List.sublist_append_left _ _))))))) hlt))) ?_
      refine q1 (cl hb38 rfl (mc rfl (mc rfl mn)) (fun w hw => ready_calls _ _ w (SlIn.sl htk (hw.sub (List.Sublist.cons _ (List.Sublist.cons _ (List.Sublist.cons _ (List.Sublist.cons _ (List.Sublist.trans (List.sublist_append_right oe1 tl1) (List.sublist_append_left _ _)))))))) hko)) ?_
      refine q1 (nt rfl) ?_
      refine qnil ?_
      refine nthen ?_
      refine ciff (bf rfl (by rw [hrd]; rfl)) ?_
      refine cskip ?_
      refine nthen ?_
      refine cregT 12 mo (by kernel_rfl) ?_
      refine q1 (mvs rfl) ?_
      refine q1 (mvi rfl) ?_
      refine q1 (isp sl54 hp1 rfl rfl (by omega) (by omega)) ?_
      refine q1 (fa fa37_0 rfl) ?_
      refine q1 (ldm (v := .int .i64 (O1.getD i hz).writer) Try.isAgg3 rfl (fun w' hw => ((SlIn_mem hs1 hp1 (hw.sub (List.Sublist.cons _ (List.Sublist.cons _ (List.Sublist.cons _ (List.Sublist.cons _ (List.Sublist.trans (List.sublist_append_left oe1 tl1) (List.sublist_append_left _ _))))))) hlt)).at (encH_writer _))) ?_
      refine q1 (subn rfl rfl (ri (by omega) (by omega))) ?_
      refine q1 (mvs rfl) ?_
      refine q1 (mvi rfl) ?_
      refine q1 (isp sl54 hp1 rfl rfl (by omega) (by omega)) ?_
      refine q1 (fa fa37_1 rfl) ?_
      refine q1 (ldm (v := .int .u64 (O1.getD i hz).seq) Try.isAgg22 rfl (fun w' hw => ((SlIn_mem hs1 hp1 (hw.sub (List.Sublist.cons _ (List.Sublist.cons _ (List.Sublist.cons _ (List.Sublist.cons _ (List.Sublist.trans (List.sublist_append_left oe1 tl1) (List.sublist_append_left _ _))))))) hlt)).at (encH_seq _))) ?_
      refine q1 (ia ar24 rfl rfl (by omega) (by omega)) ?_
      refine qtail ?_
      refine lsti 3 rfl rfl rfl Try.sizeOf22 (by rw [show (encV (runV v (O1.take i))).length = 6 from rfl]; omega) (encV_set _ _ _ (by omega)) ?_
      refine lnil ?_
      refine nblkN ?_
      refine nthen ?_
      refine creg ?_
      refine l1 (mvi rfl) ?_
      first | refine l1 (addn rfl rfl (ri (by omega) (by omega))) ?_ | refine l1 (add rfl rfl) ?_
      refine l1 (asgi rfl) ?_
      refine lnil ?_
      exact nI (i + 1) (by show i + 1 ≤ O1.length; omega) (by show O1.length - (i + 1) < O1.length - i; omega) ⟨rfl, rfl, rfl, rfl, rfl, rfl, rfl, trivial⟩ (by rw [runV_take hlt]; exact List.Sublist.refl _)
    · have hall : i = O1.length := by (have := df h2; omega)
      have hend : runV v (O1.take i) = v1 := by (rw [hall, List.take_length]; exact (path_end hS1.path).symm)
      have hms : missV v v1 = (O1.length : Int) := path_miss hS1.path (by show O1.length ≤ 1000; omega)
      have hgr : greatV v1 v = true := path_great hS1.path
      refine cexit ?_
      refine nthenE ?_
      refine nIE ?_
      refine nblkE ?_
      refine nthen ?_
      refine cseq ?_
      refine creg ?_
      refine l1 (ldw 3 Try.isAgg24 Try.sizeOf24 rfl rfl rfl) ?_
      refine l1 (ldw 1 Try.isAgg24 Try.sizeOf24 rfl rfl rfl) ?_
      refine l1 (eqla rfl rfl (fun w => eql24 _ _ w)) ?_
      refine l1 (mvb rfl) ?_
      refine l1g rfl (gwt rfl) (fun h => mvs rfl) ?_
      refine l1g rfl (gwt rfl) (fun h => lens sl54 rfl (gvt h)) ?_
      refine l1g rfl (gwt rfl) (fun h => eql (gvt h) rfl) ?_
      refine l1 (pk_and rfl rfl rfl) ?_
      refine l1 (mvb rfl) ?_
      refine l1g rfl (gwt rfl) (fun h => ldw 2 Try.isAgg24 Try.sizeOf24 rfl rfl rfl) ?_
      refine l1g rfl (gwt rfl) (fun h => ldw 1 Try.isAgg24 Try.sizeOf24 rfl rfl rfl) ?_
      refine l1g rfl (gwt rfl) (fun h => eqla (gvt h) (gvt h) (fun w => eql24 _ _ w)) ?_
      refine l1 (pk_and rfl rfl rfl) ?_
      refine l1 (mvb rfl) ?_
      refine l1g rfl (gwt rfl) (fun h => ldw 1 Try.isAgg24 Try.sizeOf24 rfl rfl rfl) ?_
      refine l1g rfl (gwt rfl) (fun h => ldw 0 Try.isAgg24 Try.sizeOf24 rfl rfl rfl) ?_
      refine l1g rfl (gwt rfl) (fun h => cl hb23 rfl (mc (gvt h) (mc (gvt h) mn)) (fun w hw => great_calls _ _ w)) ?_
      refine l1 (pk_and rfl rfl rfl) ?_
      refine l1 (mvb rfl) ?_
      refine l1g rfl (gwt rfl) (fun h => ldw 0 Try.isAgg24 Try.sizeOf24 rfl rfl rfl) ?_
      refine l1g rfl (gwt rfl) (fun h => ldw 1 Try.isAgg24 Try.sizeOf24 rfl rfl rfl) ?_
      refine l1g rfl (gwt rfl) (fun h => cl hb25 rfl (mc (gvt h) (mc (gvt h) mn)) (fun w hw => missing_calls _ _ w)) ?_
      refine l1g rfl (gwt rfl) (fun h => mvs rfl) ?_
      refine l1g rfl (gwt rfl) (fun h => lens sl54 rfl (gvt h)) ?_
      refine l1g rfl (gwt rfl) (fun h => cvi ⟨_, Try.underlying3⟩ Try.underlying22 (gvt h)) ?_
      refine l1g rfl (gwt rfl) (fun h => eql (gvt h) (gvt h)) ?_
      refine l1 (pk_and rfl rfl rfl) ?_
      refine l1 (asgb rfl) ?_
      refine lnil ?_
      refine nthen ?_
      refine cret ?_
      exact fin1b rfl rfl (by first | rfl | (rw [hend, eqV_refl, hgr, hms, ho2, ru (by omega) (by omega)]; simp))
end Go.Proofs.Ytkdbjhlkahkobaa
