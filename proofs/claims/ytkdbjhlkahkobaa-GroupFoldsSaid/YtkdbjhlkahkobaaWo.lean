/- walks, printed by a program of ours -/
import Derived.Test.YtkdbjhlkahkobaaTy
import Derived.Test.YtkdbjhlkahkobaaDef
import Derived.Test.YtkdbjhlkahkobaaWa
import Derived.Test.YtkdbjhlkahkobaaEq
namespace Go.Proofs.Ytkdbjhlkahkobaa
open Jal Go.RowKit
set_option maxRecDepth 100000
theorem clampM (m : Nat → Bool) (n : Int) : ((decide (n ≥ 1) && decide (n ≤ 6)) && m (max (min n 6) 1 - 1).toNat) = inB m n := by
  unfold inB writerB
  cases hb : (decide (n ≥ 1) && decide (n ≤ 6)) with
  | false => rfl
  | true =>
    have h : 1 ≤ n ∧ n ≤ 6 := by simpa using hb
    have e : max (min n 6) 1 = n := by omega
    rw [e]
theorem clampC (g : Grp) (n seq : Int) : (((decide (n ≥ 1) && decide (n ≤ 6)) && g.gone (max (min n 6) 1 - 1).toNat) && decide (seq ≤ g.cut (max (min n 6) 1 - 1).toNat)) = (inB g.gone n && decide (seq ≤ g.cut (n - 1).toNat)) := by
  rw [clampM]
  cases hb : inB g.gone n with
  | false => rfl
  | true =>
    have h := inB_w hb
    have e : max (min n 6) 1 = n := by omega
    rw [e]

set_option maxHeartbeats 4000000 in
theorem ops_law (p : Option Addr) (n c : Nat) (l : Nat → Stp) (hn : (n : Int) ≤ 9223372036854775807) (seq : Int) (w : World) (hl : Sl w p n 4 (fun i => encS (l i))) (hok : ∀ i, i < n → StpOk (l i)) : Calls Try.prog 8 #[.slice p n c, .int .u64 seq] w (Ret (.bool true) w) := by
  refine fn_calls (n := 134) Try.func8 rfl rfl (lb rfl) ?_
  refine cseq ?_
  refine creg ?_
  refine l1 (asgb rfl) ?_
  refine lnil ?_
  refine nthen ?_
  refine cseq ?_
  refine cseq ?_
  refine creg ?_
  refine l1 (cl hb31 rfl mn (fun w hw => awake17_calls w)) ?_
  refine l1 (nt rfl) ?_
  refine l1 (mvb rfl) ?_
  refine l1g rfl (gwf rfl) (fun h => mvs rfl) ?_
  refine l1g rfl (gwf rfl) (fun h => lens sl40 rfl (gvt h)) ?_
  refine l1g rfl (gwf rfl) (fun h => gtr (gvt h) rfl) ?_
  refine l1 (pk_or rfl rfl rfl) ?_
  refine lnil ?_
  refine nthen ?_
  refine cif rfl (fun h1 => ?_) (fun h1 => ?_)
  · skip
    refine cseq ?_
    refine creg ?_
    refine l1 (cl hb31 rfl mn (fun w hw => awake17_calls w)) ?_
    refine l1 (asgb rfl) ?_
    refine lnil ?_
    refine nthen ?_
    refine cret ?_
    refine nthenR ?_
    exact fin1 rfl rfl
  · skip
    refine cskip ?_
    refine nthen ?_
    refine cseq ?_
    refine creg ?_
    refine lal Try.zeroValue43 rfl (fun b1 => ?_)
    refine lnil ?_
    refine nthen ?_
    refine cseq ?_
    refine cseq ?_
    refine creg ?_
    refine l1 (asgi rfl) ?_
    refine lnil ?_
    refine nthen ?_
    refine cblock ?_
    refine cloopI (σ := Nat × Grp) (fun s => [(0, .slice p n c), (1, .int .u64 seq), (5, .pointer (some ⟨b1, 0, none⟩)), (6, .int .i64 (s.1 : Int))]) (fun s => [⟨b1, encG s.2, 43⟩]) (fun s => s.1 ≤ n) (fun s => n - s.1) (0, zeroG) (Nat.zero_le _) ⟨rfl, rfl, rfl, rfl, trivial⟩ (List.Sublist.refl _) ?_
    rintro ⟨i, g⟩ j hi
    show WC _ _ _ ([⟨b1, encG g, 43⟩]) _ _ (over j [(0, .slice p n c), (1, .int .u64 seq), (5, .pointer (some ⟨b1, 0, none⟩)), (6, .int .i64 (i : Int))])
    replace hi : i ≤ n := hi
    refine cseq ?_
    refine cseq ?_
    refine creg ?_
    refine l1 (mvi rfl) ?_
    refine l1 (mvs rfl) ?_
    refine l1 (lens sl40 rfl rfl) ?_
    refine l1 (lss rfl rfl) ?_
    refine lnil ?_
    refine nthen ?_
    refine cif rfl (fun h2 => ?_) (fun h2 => ?_)
    · have hlt : i < n := by (have := dt h2; omega)
      obtain ⟨b, o, hp, hbl, hm⟩ := hl.at hlt
      have hs := hok i hlt
      have hs1 : -9223372036854775808 ≤ (l i).writer ∧ (l i).writer ≤ 9223372036854775807 := hs.w
      have hs2 : -9223372036854775808 ≤ (l i).member ∧ (l i).member ≤ 9223372036854775807 := hs.m
      refine cskip ?_
      refine nthen ?_
      refine cseq ?_
      refine cblock ?_
      refine cseq ?_
      refine creg ?_
      refine l1 (mvs rfl) ?_
      refine l1 (mvi rfl) ?_
      refine l1 (isp sl40 hp rfl rfl (by omega) (by omega)) ?_
      refine l1 (ldam Try.isAgg45 Try.sizeOf45 rfl rfl (fun w' hw => (hm i hlt).kept hw.below hbl)) ?_
      refine lal Try.zeroValue45 rfl (fun b2 => ?_)
      refine lstw 1 rfl rfl rfl Try.sizeOf45 rfl rfl rfl ?_
      refine lnil ?_
      refine nthen ?_
      refine cseq ?_
      refine creg ?_
      refine l1 (ldw 0 Try.isAgg43 Try.sizeOf43 rfl rfl rfl) ?_
      refine l1 (fa fa45_0 rfl) ?_
      refine l1 (ldc 1 Try.isAgg3 rfl rfl rfl) ?_
      refine l1 (fa fa45_1 rfl) ?_
      refine l1 (ldc 1 Try.isAgg3 rfl rfl rfl) ?_
      refine l1 (fa fa45_2 rfl) ?_
      refine l1 (ldc 1 Try.isAgg3 rfl rfl rfl) ?_
      refine l1 (cl hb32 rfl (mc rfl (mc rfl (mc rfl (mc rfl mn)))) (fun w hw => may_calls _ _ _ _ (by omega) w)) ?_
      refine l1 (asgi rfl) ?_
      refine lnil ?_
      refine nthen ?_
      refine cseq ?_
      refine creg ?_
      refine l1 (ldw 0 Try.isAgg43 Try.sizeOf43 rfl rfl rfl) ?_
      refine l1 (fa fa45_0 rfl) ?_
      refine l1 (ldc 1 Try.isAgg3 rfl rfl rfl) ?_
      refine l1 (fa fa45_1 rfl) ?_
      refine l1 (ldc 1 Try.isAgg3 rfl rfl rfl) ?_
      refine l1 (fa fa45_2 rfl) ?_
      refine l1 (ldc 1 Try.isAgg3 rfl rfl rfl) ?_
      refine l1 (fa fa45_3 rfl) ?_
      refine l1 (ldc 1 Try.isAgg22 rfl rfl rfl) ?_
      refine l1 (cl hb33 rfl (mc rfl (mc rfl (mc rfl (mc rfl (mc rfl mn))))) (fun w hw => behind_calls _ _ _ _ _ w)) ?_
      refine lal Try.zeroValue43 rfl (fun b3 => ?_)
      refine lstw 2 rfl rfl rfl Try.sizeOf43 rfl rfl rfl ?_
      refine lnil ?_
      refine nthen ?_
      refine cseq ?_
      refine cseq ?_
      refine cregq mo (by kernel_rfl) ?_
      refine q1 (mvi rfl) ?_
      refine q1 (ldw 0 Try.isAgg43 Try.sizeOf43 rfl rfl rfl) ?_
      refine q1 (fa fa45_0 rfl) ?_
      refine q1 (ldc 1 Try.isAgg3 rfl rfl rfl) ?_
      refine q1 (fa fa45_1 rfl) ?_
      refine q1 (ldc 1 Try.isAgg3 rfl rfl rfl) ?_
      refine q1 (fa fa45_2 rfl) ?_
      refine q1 (ldc 1 Try.isAgg3 rfl rfl rfl) ?_
      refine q1 (cl hb36 rfl (mc rfl (mc rfl (mc rfl (mc rfl mn)))) (fun w hw => rmay_calls _ _ _ _ (by omega) w)) ?_
      refine q1 (neq rfl rfl) ?_
      refine q1 (mvb rfl) ?_
      refine q1g rfl (gwf rfl) (fun h => ldw 2 Try.isAgg43 Try.sizeOf43 rfl rfl rfl) ?_
      refine q1g rfl (gwf rfl) (fun h => ldw 0 Try.isAgg43 Try.sizeOf43 rfl rfl rfl) ?_
      refine q1g rfl (gwf rfl) (fun h => fa fa45_0 rfl) ?_
      refine q1g rfl (gwf rfl) (fun h => ldc 1 Try.isAgg3 rfl (gvt h) rfl) ?_
      refine q1g rfl (gwf rfl) (fun h => fa fa45_1 rfl) ?_
      refine q1g rfl (gwf rfl) (fun h => ldc 1 Try.isAgg3 rfl (gvt h) rfl) ?_
      refine q1g rfl (gwf rfl) (fun h => fa fa45_2 rfl) ?_
      refine q1g rfl (gwf rfl) (fun h => ldc 1 Try.isAgg3 rfl (gvt h) rfl) ?_
      refine q1g rfl (gwf rfl) (fun h => fa fa45_3 rfl) ?_
      refine q1g rfl (gwf rfl) (fun h => ldc 1 Try.isAgg22 rfl (gvt h) rfl) ?_
      refine q1g rfl (gwf rfl) (fun h => cl hb37 rfl (mc (gvt h) (mc (gvt h) (mc (gvt h) (mc (gvt h) (mc (gvt h) mn))))) (fun w hw => rbehind_calls _ _ _ _ _ w)) ?_
      refine q1g rfl (gwf rfl) (fun h => neqa (gvt h) (gvt h) (fun w => neq43 rfl w)) ?_
      refine q1 (pk_or rfl rfl rfl) ?_
      refine qnil ?_
      refine nthen ?_
      refine ciff (bf rfl (by rw [rmay_eq]; simp)) ?_
      refine cskip ?_
      refine nthen ?_
      refine cseq ?_
      refine creg ?_
      refine l1 (mvi rfl) ?_
      refine l1 (eql rfl rfl) ?_
      refine lnil ?_
      refine nthen ?_
      refine cif rfl (fun h3 => ?_) (fun h3 => ?_)
      · skip
        refine creg ?_
        refine l1 (ldw 2 Try.isAgg43 Try.sizeOf43 rfl rfl rfl) ?_
        refine lstw 0 rfl rfl rfl Try.sizeOf43 rfl rfl rfl ?_
        refine lnil ?_
        refine nblkN ?_
        refine nthen ?_
        refine creg ?_
        refine l1 (mvi rfl) ?_
        first | refine l1 (addn rfl rfl (ri (by omega) (by omega))) ?_ | refine l1 (add rfl rfl) ?_
        refine l1 (asgi rfl) ?_
        refine lnil ?_
        first | exact nI (i + 1, behindG g (l i).writer (l i).op (l i).member (l i).cut) (by show i + 1 ≤ n; omega) (by show n - (i + 1) < n - i; omega) ⟨rfl, rfl, rfl, rfl, trivial⟩ (List.Sublist.cons_cons _ (List.nil_sublist _)) | exact nI (i + 1, g) (by show i + 1 ≤ n; omega) (by show n - (i + 1) < n - i; omega) ⟨rfl, rfl, rfl, rfl, trivial⟩ (List.Sublist.cons_cons _ (List.nil_sublist _))
      · skip
        refine cskip ?_
        refine nblkN ?_
        refine nthen ?_
        refine creg ?_
        refine l1 (mvi rfl) ?_
        first | refine l1 (addn rfl rfl (ri (by omega) (by omega))) ?_ | refine l1 (add rfl rfl) ?_
        refine l1 (asgi rfl) ?_
        refine lnil ?_
        first | exact nI (i + 1, behindG g (l i).writer (l i).op (l i).member (l i).cut) (by show i + 1 ≤ n; omega) (by show n - (i + 1) < n - i; omega) ⟨rfl, rfl, rfl, rfl, trivial⟩ (List.Sublist.cons_cons _ (List.nil_sublist _)) | exact nI (i + 1, g) (by show i + 1 ≤ n; omega) (by show n - (i + 1) < n - i; omega) ⟨rfl, rfl, rfl, rfl, trivial⟩ (List.Sublist.cons_cons _ (List.nil_sublist _))
    · skip
      refine cexit ?_
      refine nthenE ?_
      refine nIE ?_
      refine nblkE ?_
      refine nthen ?_
      refine cseq ?_
      refine cseq ?_
      refine creg ?_
      refine l1 (asgi rfl) ?_
      refine lnil ?_
      refine nthen ?_
      refine cblock ?_
      refine cloopI (σ := Int) (fun s => [(1, .int .u64 seq), (5, .pointer (some ⟨b1, 0, none⟩)), (10, .int .i64 s)]) (fun s => [⟨b1, encG g, 43⟩]) (fun s => -1 ≤ s ∧ s ≤ 9) (fun s => (9 - s).toNat) (-1) ⟨by decide, by decide⟩ ⟨rfl, rfl, rfl, trivial⟩ (List.Sublist.refl _) ?_
      rintro n2 j ⟨h1, h2⟩
      show WC _ _ _ ([⟨b1, encG g, 43⟩]) _ _ (over j [(1, .int .u64 seq), (5, .pointer (some ⟨b1, 0, none⟩)), (10, .int .i64 n2)])
      replace h1 : -1 ≤ n2 := h1; replace h2 : n2 ≤ 9 := h2
      refine cseq ?_
      refine cseq ?_
      refine creg ?_
      refine l1 (mvi rfl) ?_
      refine l1 (leq rfl rfl) ?_
      refine lnil ?_
      refine nthen ?_
      refine cif rfl (fun h4 => ?_) (fun h4 => ?_)
      · have h3 : n2 ≤ 8 := dt h4
        refine cskip ?_
        refine nthen ?_
        refine cseq ?_
        refine cblock ?_
        refine cseq ?_
        refine creg ?_
        refine l1 (mvi rfl) ?_
        refine l1 (geq rfl rfl) ?_
        refine l1 (mvb rfl) ?_
        refine l1g rfl (gwt rfl) (fun h => mvi rfl) ?_
        refine l1g rfl (gwt rfl) (fun h => leq (gvt h) rfl) ?_
        refine l1 (pk_and rfl rfl rfl) ?_
        refine l1 (asgb rfl) ?_
        refine lnil ?_
        refine nthen ?_
        refine cseq ?_
        refine creg ?_
        refine l1 (mvb rfl) ?_
        refine l1 (mvb rfl) ?_
        refine l1g rfl (gwt rfl) (fun h => mvi rfl) ?_
        refine l1g rfl (gwt rfl) (fun h => min2 (gvt h) rfl) ?_
        refine l1g rfl (gwt rfl) (fun h => max2 (gvt h) rfl) ?_
        first | refine l1g rfl (gwt rfl) (fun h => subn (gvt h) rfl (ri (by first | omega | (simp at h; omega)) (by first | omega | (simp at h; omega))) ) ?_ | refine l1g rfl (gwt rfl) (fun h => sub (gvt h) rfl ) ?_
        refine l1g rfl (gwt rfl) (fun h => fa fa43_2 rfl) ?_
        refine l1g rfl (gwt rfl) (fun h => ia ar41 (gvt h) (gvt h) (by omega) (by omega)) ?_
        refine l1g rfl (gwt rfl) (fun h => ldc 0 Try.isAgg4 rfl (gvt h) (encG_members g _ (by omega))) ?_
        refine l1 (pk_and rfl rfl rfl) ?_
        refine l1 (asgb rfl) ?_
        refine lnil ?_
        refine nthen ?_
        refine cseq ?_
        refine creg ?_
        refine l1 (mvb rfl) ?_
        refine l1 (mvb rfl) ?_
        refine l1g rfl (gwt rfl) (fun h => mvi rfl) ?_
        refine l1g rfl (gwt rfl) (fun h => min2 (gvt h) rfl) ?_
        refine l1g rfl (gwt rfl) (fun h => max2 (gvt h) rfl) ?_
        first | refine l1g rfl (gwt rfl) (fun h => subn (gvt h) rfl (ri (by first | omega | (simp at h; omega)) (by first | omega | (simp at h; omega))) ) ?_ | refine l1g rfl (gwt rfl) (fun h => sub (gvt h) rfl ) ?_
        refine l1g rfl (gwt rfl) (fun h => fa fa43_3 rfl) ?_
        refine l1g rfl (gwt rfl) (fun h => ia ar41 (gvt h) (gvt h) (by omega) (by omega)) ?_
        refine l1g rfl (gwt rfl) (fun h => ldc 0 Try.isAgg4 rfl (gvt h) (encG_gone g _ (by omega))) ?_
        refine l1 (pk_and rfl rfl rfl) ?_
        refine l1 (mvb rfl) ?_
        refine l1g rfl (gwt rfl) (fun h => mvi rfl) ?_
        refine l1g rfl (gwt rfl) (fun h => mvi rfl) ?_
        refine l1g rfl (gwt rfl) (fun h => min2 (gvt h) rfl) ?_
        refine l1g rfl (gwt rfl) (fun h => max2 (gvt h) rfl) ?_
        first | refine l1g rfl (gwt rfl) (fun h => subn (gvt h) rfl (ri (by first | omega | (simp at h; omega)) (by first | omega | (simp at h; omega))) ) ?_ | refine l1g rfl (gwt rfl) (fun h => sub (gvt h) rfl ) ?_
        refine l1g rfl (gwt rfl) (fun h => fa fa43_4 rfl) ?_
        refine l1g rfl (gwt rfl) (fun h => ia ar23 (gvt h) (gvt h) (by omega) (by omega)) ?_
        refine l1g rfl (gwt rfl) (fun h => ldc 0 Try.isAgg22 rfl (gvt h) (encG_cut g _ (by omega))) ?_
        refine l1g rfl (gwt rfl) (fun h => leq (gvt h) (gvt h)) ?_
        refine l1 (pk_and rfl rfl rfl) ?_
        refine l1 (asgb rfl) ?_
        refine lnil ?_
        refine nthen ?_
        refine cseq ?_
        refine creg ?_
        refine l1 (ldw 0 Try.isAgg43 Try.sizeOf43 rfl rfl rfl) ?_
        refine l1 (mvi rfl) ?_
        refine l1 (cl hb34 rfl (mc rfl (mc rfl mn)) (fun w hw => is_calls _ _ (by omega) w)) ?_
        refine l1 (mvb rfl) ?_
        refine l1 (neqb Try.underlying4 rfl rfl) ?_
        refine l1 (mvb rfl) ?_
        refine l1g rfl (gwf rfl) (fun h => ldw 0 Try.isAgg43 Try.sizeOf43 rfl rfl rfl) ?_
        refine l1g rfl (gwf rfl) (fun h => mvi rfl) ?_
        refine l1g rfl (gwf rfl) (fun h => mvi rfl) ?_
        refine l1g rfl (gwf rfl) (fun h => cl hb35 rfl (mc (gvt h) (mc (gvt h) (mc (gvt h) mn))) (fun w hw => counts_calls _ _ _ (by omega) w)) ?_
        refine l1g rfl (gwf rfl) (fun h => mvb rfl) ?_
        refine l1g rfl (gwf rfl) (fun h => mvb (gvt h)) ?_
        refine l1g rfl (ggf rfl) (fun h => mvb rfl) ?_
        refine l1g rfl (gwf rfl) (fun h => pk_or (gvt h) rfl (gva h)) ?_
        refine l1g rfl (gwf rfl) (fun h => neqb Try.underlying4 (gvt h) (gvt h)) ?_
        refine l1 (pk_or rfl rfl rfl) ?_
        refine lnil ?_
        refine nthen ?_
        refine ciff (bf rfl (by rw [clampC, clampM]; simp [countsB])) ?_
        refine cskip ?_
        refine nblkN ?_
        refine nthen ?_
        refine creg ?_
        refine l1 (mvi rfl) ?_
        first | refine l1 (addn rfl rfl (ri (by omega) (by omega))) ?_ | refine l1 (add rfl rfl) ?_
        refine l1 (asgi rfl) ?_
        refine lnil ?_
        exact nI (n2 + 1) ⟨by omega, by omega⟩ (by show (9 - (n2 + 1)).toNat < (9 - n2).toNat; omega) ⟨rfl, rfl, rfl, trivial⟩ (List.Sublist.refl _)
      · skip
        refine cexit ?_
        refine nthenE ?_
        refine nIE ?_
        refine nblkE ?_
        refine nthen ?_
        refine cseq ?_
        refine creg ?_
        refine l1 (asgb rfl) ?_
        refine lnil ?_
        refine nthen ?_
        refine cret ?_
        exact fin1 rfl rfl
end Go.Proofs.Ytkdbjhlkahkobaa
