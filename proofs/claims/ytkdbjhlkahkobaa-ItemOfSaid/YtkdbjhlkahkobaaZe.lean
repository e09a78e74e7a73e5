/- several texts of ours, joined: Wq, Wt, Rws, Ya, Stp, Trn, Rw2, Yb -/
import Derived.Test.YtkdbjhlkahkobaaZa
import Derived.Test.YtkdbjhlkahkobaaZd
import Derived.Test.YtkdbjhlkahkobaaZb
/- walks, printed by a program of ours -/
namespace Go.Proofs.Ytkdbjhlkahkobaa
open Jal Go.RowKit
set_option maxRecDepth 100000
theorem bs35 : ∀ w : World, (Instr.buildSlice 35 0 #[]).run Try.prog w = .ok (.slice (some ⟨w.heap.size, 0, none⟩) 0 0) (w.alloc (.cells [].toArray 34)) := fun w => by kernel_rfl

theorem mul16 {n : Nat} (h : n ≤ 20) : (0 + n) * 16 ≤ 140737488355328 := by omega

theorem clonep_calls (w : World) (p : Option Addr) (n c : Nat) (t : Nat → Nat → Int) (hn : n ≤ 20) (hl : Sl w p n 16 (fun i => arr .u8 16 (t i))) (hpos : 0 < n) : Calls Try.prog 82 #[.slice p n c] w (RetM (fun v Hn => ∃ p' c', v = .slice p' n c' ∧ SlIn Hn p' n 16 (fun i => arr .u8 16 (t i))) w) := by
  refine fn_calls (n := 8) Try.func82 rfl rfl (lb rfl) ?_
  obtain ⟨b, o, rfl, hbl, hm⟩ := hl.at hpos
  refine cseq ?_
  refine creg ?_
  refine l1 (asgs rfl) ?_
  refine lnil ?_
  refine nthen ?_
  refine cseq ?_
  refine cseq ?_
  refine creg ?_
  refine l1 (mvs rfl) ?_
  refine l1 (eqnil sl35 rfl rfl) ?_
  refine lnil ?_
  refine nthen ?_
  refine ciff rfl ?_
  refine cskip ?_
  refine nthen ?_
  refine cseq ?_
  refine creg ?_
  refine lbs Try.underlying35 rfl (bs35) (fun b1 => ?_)
  refine l1 (mvs rfl) ?_
  refine lapp [] [] [⟨b1, [], 34⟩] (xs := []) el35 rfl rfl ⟨rfl, .inr ⟨b1, 0, [], rfl, rfl, Nat.le_refl _, by decide, rfl, rfl⟩⟩ rfl (news := (List.range n).flatMap (fun i => arr .u8 16 (t i))) (by rw [flatM_len (sz := 16) (fun a => by simp [arr]), List.length_range]) (fun w' hw => (mem_flat (by decide) (fun i => by simp [arr]) (fun i hi => (hm i hi).kept hw.below hbl))) (fun u hu => by obtain ⟨i, _, hi⟩ := List.mem_flatMap.1 hu; exact oneA (vs := arr .u8 16 (t i)) (by simp [arr, List.all_map, Value.oneCell']) u hi) hpos (by unfold maxLen; omega) (by omega) ?_
  intro g cap oe hown0
  have hown : OwnL 34 16 (.slice (some ⟨g, 0, none⟩) n cap) n ((List.range n).flatMap (fun i => arr .u8 16 (t i))) oe := by simpa using hown0
  refine l1 (asgs rfl) ?_
  refine lnil ?_
  refine nthen ?_
  refine cret ?_
  exact finM (.slice (some ⟨g, 0, none⟩) (0 + n) cap) oe (rv1 rfl (rvt rfl)) ⟨oe, List.Perm.refl _, by simp⟩ ⟨some ⟨g, 0, none⟩, cap, by rw [Nat.zero_add], hown.slInL (fun a => by simp [arr]) (fun i hi => ⟨i, List.getElem?_range hi, rfl⟩)⟩

theorem clonen_calls (w : World) (c : Nat) (t : Nat → Nat → Int) : Calls Try.prog 82 #[.slice none 0 c] w (RetM (fun v Hn => ∃ p' c', v = .slice p' 0 c' ∧ SlIn Hn p' 0 16 (fun i => arr .u8 16 (t i))) w) := by
  refine fn_calls (n := 8) Try.func82 rfl rfl (lb rfl) ?_
  refine cseq ?_
  refine creg ?_
  refine l1 (asgs rfl) ?_
  refine lnil ?_
  refine nthen ?_
  refine cseq ?_
  refine cseq ?_
  refine creg ?_
  refine l1 (mvs rfl) ?_
  refine l1 (eqnil sl35 rfl rfl) ?_
  refine lnil ?_
  refine nthen ?_
  refine cift rfl ?_
  refine cseq ?_
  refine creg ?_
  refine l1 (asgs rfl) ?_
  refine lnil ?_
  refine nthen ?_
  refine cret ?_
  refine nthenR ?_
  exact finM _ [] (rv1 rfl (rvt rfl)) ⟨[], List.Perm.refl _, List.nil_sublist _⟩ ⟨none, 0, rfl, .inl rfl⟩

theorem clone0_calls (w : World) (a : Addr) (c : Nat) (t : Nat → Nat → Int) : Calls Try.prog 82 #[.slice (some a) 0 c] w (RetM (fun v Hn => ∃ p' c', v = .slice p' 0 c' ∧ SlIn Hn p' 0 16 (fun i => arr .u8 16 (t i))) w) := by
  refine fn_calls (n := 8) Try.func82 rfl rfl (lb rfl) ?_
  refine cseq ?_
  refine creg ?_
  refine l1 (asgs rfl) ?_
  refine lnil ?_
  refine nthen ?_
  refine cseq ?_
  refine cseq ?_
  refine creg ?_
  refine l1 (mvs rfl) ?_
  refine l1 (eqnil sl35 rfl rfl) ?_
  refine lnil ?_
  refine nthen ?_
  refine ciff rfl ?_
  refine cskip ?_
  refine nthen ?_
  refine cseq ?_
  refine creg ?_
  refine lbs Try.underlying35 rfl (bs35) (fun b1 => ?_)
  refine l1 (mvs rfl) ?_
  refine l1 (lapp0 el35 rfl (Nat.le_refl _) rfl) ?_
  refine l1 (asgs rfl) ?_
  refine lnil ?_
  refine nthen ?_
  refine cret ?_
  exact finM _ [] (rv1 rfl (rvt rfl)) ⟨[], List.Perm.refl _, List.nil_sublist _⟩ ⟨_, _, rfl, .inl rfl⟩

theorem clone_calls (w : World) (p : Option Addr) (n c : Nat) (t : Nat → Nat → Int) (hn : n ≤ 20) (hl : Sl w p n 16 (fun i => arr .u8 16 (t i))) : Calls Try.prog 82 #[.slice p n c] w (RetM (fun v Hn => ∃ p' c', v = .slice p' n c' ∧ SlIn Hn p' n 16 (fun i => arr .u8 16 (t i))) w) := by
  rcases Nat.eq_zero_or_pos n with h | h
  · subst h
    cases p with
    | none => exact clonen_calls w c t
    | some a => exact clone0_calls w a c t
  · exact clonep_calls w p n c t hn hl h

set_option maxHeartbeats 1000000 in
theorem minf_calls (w : World) (p : Option Addr) (c : Nat) (L : List Hd) (hn : (L.length : Int) ≤ 9223372036854775807) (h0 : 0 < L.length) (hl : Sl w p L.length 125 (fun i => encH (L.getD i hz))) : Calls Try.prog 80 #[.slice p L.length c, .func (.func 81) #[] #[]] w (Ret (.agg (encH (minT L (L.length - 1))).toArray) w) := by
  refine fn_calls (n := 33) Try.func80 rfl rfl (lb rfl) ?_
  obtain ⟨b, o, rfl, hbl, hm⟩ := hl.at h0
  refine cseq ?_
  refine creg ?_
  refine lal (zs := encH hz) Try.zeroValue37 rfl (fun b1 => ?_)
  refine lnil ?_
  refine nthen ?_
  refine cseq ?_
  refine cseq ?_
  refine creg ?_
  refine l1 (mvs rfl) ?_
  refine l1 (lens sl54 rfl rfl) ?_
  refine l1 (lss rfl rfl) ?_
  refine lnil ?_
  refine nthen ?_
  refine ciff (bf rfl (decide_eq_false (by omega))) ?_
  refine cskip ?_
  refine nthen ?_
  refine cseq ?_
  refine creg ?_
  refine l1 (mvs rfl) ?_
  refine l1 (isp sl54 rfl rfl rfl (by omega) (by omega)) ?_
  refine l1 (ldam (vs := encH (L.getD (0) hz)) Try.isAgg37 Try.sizeOf37 rfl rfl (fun w' hw => by rw [show ((0 : Int)).toNat = (0) from by omega]; exact (hm (0) (by omega)).kept hw.below hbl)) ?_
  refine lal (zs := encH hz) Try.zeroValue37 rfl (fun b2 => ?_)
  refine lstw (cs := encH (minT L 0)) 1 rfl rfl rfl Try.sizeOf37 rfl rfl rfl ?_
  refine lnil ?_
  refine nthen ?_
  refine cseq ?_
  refine cseq ?_
  refine creg ?_
  refine l1 (asgi rfl) ?_
  refine lnil ?_
  refine nthen ?_
  refine cblock ?_
  refine cloopI (σ := Nat) (fun s => [(0, .slice (some ⟨b, o, none⟩) L.length c), (1, .func (.func 81) #[] #[]), (4, .pointer (some ⟨b1, 0, none⟩)), (5, .pointer (some ⟨b2, 0, none⟩)), (6, .int .i64 ((s : Int) + 1))]) (fun s => [⟨b1, encH hz, 37⟩, ⟨b2, encH (minT L s), 37⟩]) (fun s => s < L.length) (fun s => L.length - s) 0 (by omega) ⟨rfl, rfl, rfl, rfl, rfl, trivial⟩ (List.Sublist.refl _) ?_
  rintro i j hi
  show WC _ _ _ ([⟨b1, encH hz, 37⟩, ⟨b2, encH (minT L i), 37⟩]) _ _ (over j [(0, .slice (some ⟨b, o, none⟩) L.length c), (1, .func (.func 81) #[] #[]), (4, .pointer (some ⟨b1, 0, none⟩)), (5, .pointer (some ⟨b2, 0, none⟩)), (6, .int .i64 ((i : Int) + 1))])
  replace hi : i < L.length := hi
  refine cseq ?_
  refine cseq ?_
  refine creg ?_
  refine l1 (mvi rfl) ?_
  refine l1 (mvs rfl) ?_
  refine l1 (lens sl54 rfl rfl) ?_
  refine l1 (lss rfl rfl) ?_
  refine lnil ?_
  refine nthen ?_
  refine cif rfl (fun h1 => ?_) (fun h1 => ?_)
  · have hlt : i + 1 < L.length := by (have := dt h1; omega)
    refine cskip ?_
    refine nthen ?_
    refine cseq ?_
    refine cblock ?_
    refine cseq ?_
    refine cregq mo (by kernel_rfl) ?_
    refine q1 (mvf rfl) ?_
    refine q1 (mvs rfl) ?_
    refine q1 (mvi rfl) ?_
    refine q1 (isp sl54 rfl rfl rfl (by omega) (by omega)) ?_
    refine q1 (ldam (vs := encH (L.getD (i + 1) hz)) Try.isAgg37 Try.sizeOf37 rfl rfl (fun w' hw => by rw [show ((i : Int) + 1).toNat = (i + 1) from by omega]; exact (hm (i + 1) (by omega)).kept hw.below hbl)) ?_
    refine q1 (ldw 1 Try.isAgg37 Try.sizeOf37 rfl rfl rfl) ?_
    refine q1 (cl hb81 rfl (mc rfl (mc rfl mn)) (fun w hw => first_calls _ _ w)) ?_
    refine q1 (lss rfl rfl) ?_
    refine qnil ?_
    refine nthen ?_
    refine cif rfl (fun h2 => ?_) (fun h2 => ?_)
    · skip
      refine creg ?_
      refine l1 (mvs rfl) ?_
      refine l1 (mvi rfl) ?_
      refine l1 (isp sl54 rfl rfl rfl (by omega) (by omega)) ?_
      refine l1 (ldam (vs := encH (L.getD (i + 1) hz)) Try.isAgg37 Try.sizeOf37 rfl rfl (fun w' hw => by rw [show ((i : Int) + 1).toNat = (i + 1) from by omega]; exact (hm (i + 1) (by omega)).kept hw.below hbl)) ?_
      refine lstw 1 rfl rfl rfl Try.sizeOf37 rfl rfl rfl ?_
      refine lnil ?_
      refine nblkN ?_
      refine nthen ?_
      refine creg ?_
      refine l1 (mvi rfl) ?_
      first | refine l1 (addn rfl rfl (ri (by omega) (by omega))) ?_ | refine l1 (add rfl rfl) ?_
      refine l1 (asgi rfl) ?_
      refine lnil ?_
      first | exact nI (i + 1) (by show i + 1 < L.length; omega) (by show L.length - (i + 1) < L.length - i; omega) ⟨rfl, rfl, rfl, rfl, rfl, trivial⟩ (by rw [minT_t hlt h2]; exact List.Sublist.refl _) | exact nI (i + 1) (by show i + 1 < L.length; omega) (by show L.length - (i + 1) < L.length - i; omega) ⟨rfl, rfl, rfl, rfl, rfl, trivial⟩ (by rw [minT_f hlt h2]; exact List.Sublist.refl _)
    · skip
      refine cskip ?_
      refine nblkN ?_
      refine nthen ?_
      refine creg ?_
      refine l1 (mvi rfl) ?_
      first | refine l1 (addn rfl rfl (ri (by omega) (by omega))) ?_ | refine l1 (add rfl rfl) ?_
      refine l1 (asgi rfl) ?_
      refine lnil ?_
      first | exact nI (i + 1) (by show i + 1 < L.length; omega) (by show L.length - (i + 1) < L.length - i; omega) ⟨rfl, rfl, rfl, rfl, rfl, trivial⟩ (by rw [minT_t hlt h2]; exact List.Sublist.refl _) | exact nI (i + 1) (by show i + 1 < L.length; omega) (by show L.length - (i + 1) < L.length - i; omega) ⟨rfl, rfl, rfl, rfl, rfl, trivial⟩ (by rw [minT_f hlt h2]; exact List.Sublist.refl _)
  · have hall : i = L.length - 1 := by (have := df h1; omega)
    subst hall
    refine cexit ?_
    refine nthenE ?_
    refine nIE ?_
    refine nblkE ?_
    refine nthen ?_
    refine cseq ?_
    refine creg ?_
    refine l1 (ldw 1 Try.isAgg37 Try.sizeOf37 rfl rfl rfl) ?_
    refine lstw 0 rfl rfl rfl Try.sizeOf37 rfl rfl rfl ?_
    refine lnil ?_
    refine nthen ?_
    refine cret ?_
    exact finc 0 rfl Try.isAgg37 Try.sizeOf37 rfl rfl rfl rfl

theorem rdy_all (l : Nat → Hd) (v : Vec) (n : Nat) : ((List.range n).map l).filter (readyH v) = rdyL l v n := rfl
theorem formed_tn {h : Hd} (hf : formedH h = true) : h.tn ≤ 8 := by
  unfold formedH at hf
  cases hp : placedB h with
  | false => rw [hp] at hf; simp at hf
  | true =>
    rw [hp] at hf
    by_cases ht : (h.tn : Int) > 8
    · rw [decide_eq_true ht] at hf; simp at hf
    · omega

set_option maxHeartbeats 1000000 in
theorem order_calls (w : World) (v : Vec) (p : Option Addr) (n c : Nat) (l : Nat → Hd) (hn : n ≤ 40) (hl : Sl w p n 125 (fun i => encH (l i))) (hx : ∀ i, i < n → HdIn w (l i)) (kx : ∀ i, i < n → HdOk (l i)) : Calls Try.prog 45 #[.agg (encV v).toArray, .slice p n c] w (RetM (OrdR ((List.range n).map l) v) w) := by
  refine fn_calls (n := 46) Try.func45 rfl rfl (lb rfl) ?_
  refine cseq ?_
  refine creg ?_
  refine lbxa rfl (fun b1 => ?_)
  refine l1 (asg rfl) ?_
  refine lal (zs := encV (fun _ => 0)) Try.zeroValue24 rfl (fun b2 => ?_)
  refine lnil ?_
  refine nthen ?_
  refine cseq ?_
  refine creg ?_
  refine l1 (asg rfl) ?_
  refine lnil ?_
  refine nthen ?_
  refine cblock ?_
  refine cloopI (σ := OrdS) (fun s => [(1, .slice p n c), (2, .pointer (some ⟨b1, 0, none⟩)), (5, .pointer (some ⟨b2, 0, none⟩)), (6, s.ov)]) (fun s => ([⟨b1, encV s.v, 24⟩, ⟨b2, encV (fun _ => 0), 24⟩] ++ (s.oe ++ s.tl))) (fun s => OrdOk ((List.range n).map l) v s) (fun s => ((List.range n).map l).countP (laterV s.v)) ⟨v, [], .slice none 0 0, [], []⟩ (ordOk0 _ v) ⟨rfl, rfl, rfl, rfl, trivial⟩ (List.Sublist.refl _) ?_
  rintro S j hS
  show WC _ _ _ (⟨b1, encV S.v, 24⟩ :: ⟨b2, encV (fun _ => 0), 24⟩ :: (S.oe ++ S.tl)) _ _ (over j [(1, .slice p n c), (2, .pointer (some ⟨b1, 0, none⟩)), (5, .pointer (some ⟨b2, 0, none⟩)), (6, S.ov)])
  replace hS : OrdOk ((List.range n).map l) v S := hS
  refine cblock ?_
  refine cseq ?_
  refine creg ?_
  refine l1 (asgs rfl) ?_
  refine lnil ?_
  refine nthen ?_
  refine cseq ?_
  refine cseq ?_
  refine creg ?_
  refine l1 (mvs rfl) ?_
  refine l1 (lens sl54 rfl rfl) ?_
  refine l1 (mvi rfl) ?_
  refine lnil ?_
  refine nthen ?_
  refine cblock ?_
  refine cloopI (σ := Nat × Value × List Ent) (fun s => [(1, .slice p n c), (2, .pointer (some ⟨b1, 0, none⟩)), (5, .pointer (some ⟨b2, 0, none⟩)), (6, S.ov), (7, s.2.1), (11, .slice p n c), (12, .int .i64 (n : Int)), (13, .int .i64 (s.1 : Int))]) (fun s => ([⟨b1, encV S.v, 24⟩, ⟨b2, encV (fun _ => 0), 24⟩] ++ (s.2.2 ++ (S.oe ++ S.tl)))) (fun s => s.1 ≤ n ∧ OwnL 37 125 s.2.1 (rdyL l S.v s.1).length ((rdyL l S.v s.1).flatMap encH) s.2.2) (fun s => n - s.1) (0, .slice none 0 0, []) ⟨Nat.zero_le _, OwnL.nil 37 125⟩ ⟨rfl, rfl, rfl, rfl, rfl, rfl, rfl, rfl, trivial⟩ (List.Sublist.refl _) ?_
  rintro ⟨i, rv, re⟩ j ⟨hi, hown⟩; replace hi : i ≤ n := hi; replace hown : OwnL 37 125 rv (rdyL l S.v i).length ((rdyL l S.v i).flatMap encH) re := hown; obtain ⟨rp, rc, rfl⟩ := hown.form
  show WC _ _ _ (⟨b1, encV S.v, 24⟩ :: ⟨b2, encV (fun _ => 0), 24⟩ :: (re ++ (S.oe ++ S.tl))) _ _ (over j [(1, .slice p n c), (2, .pointer (some ⟨b1, 0, none⟩)), (5, .pointer (some ⟨b2, 0, none⟩)), (6, S.ov), (7, .slice rp (rdyL l S.v i).length rc), (11, .slice p n c), (12, .int .i64 (n : Int)), (13, .int .i64 (i : Int))])
  skip
  refine cseq ?_
  refine creg ?_
  refine l1 (lss rfl rfl) ?_
  refine lnil ?_
  refine nthen ?_
  refine cseq ?_
  refine cif rfl (fun h1 => ?_) (fun h1 => ?_)
  · have hlt : i < n := by (have := dt h1; omega)
    obtain ⟨b, o, hp, hbl, hm⟩ := hl.at hlt
    refine cskip ?_
    refine nthen ?_
    refine cseq ?_
    refine cblock ?_
    refine cseq ?_
    refine creg ?_
    refine l1 (isp sl54 hp rfl rfl (by omega) (by omega)) ?_
    refine l1 (ldam (vs := encH (l i)) Try.isAgg37 Try.sizeOf37 rfl rfl (fun w' hw => (hm i hlt).kept hw.below hbl)) ?_
    refine lal (zs := encH hz) Try.zeroValue37 rfl (fun b3 => ?_)
    refine wl_perm (ins_perm 2 _ _) ?_
    refine lstw 2 rfl rfl rfl Try.sizeOf37 rfl rfl rfl ?_
    refine lnil ?_
    refine nthen ?_
    refine cseq ?_
    refine creg ?_
    refine l1 (ldw 0 Try.isAgg24 Try.sizeOf24 rfl rfl rfl) ?_
    refine l1 (ldw 2 Try.isAgg37 Try.sizeOf37 rfl rfl rfl) ?_
    refine l1 (cl hb38 rfl (mc rfl (mc rfl mn)) (fun w hw => ready_calls _ _ w (Sl.keptS (hx i hlt) hw) (kx i hlt))) ?_
    refine lnil ?_
    refine nthen ?_
    refine cif rfl (fun h2 => ?_) (fun h2 => ?_)
    · skip
      refine creg ?_
      refine l1 (mvs rfl) ?_
      refine l1 (ldw 2 Try.isAgg37 Try.sizeOf37 rfl rfl rfl) ?_
      refine lbs Try.underlying54 rfl (bs54 _) (fun b4 => ?_)
      refine wl_perm (ins_perm 3 _ _) ?_
      refine lapp [_, _, _, _] (S.oe ++ S.tl) re el54 rfl rfl hown rfl (news := encH (l i)) rfl (fun w' hw => by have := hw.mem (i := 3) rfl 0; simpa using this) (encH_one _) (by decide) (by have := rdyL_len l S.v i; unfold maxLen; omega) (by have := rdyL_len l S.v i; omega) ?_
      intro g cap re' hown1
      refine l1 (asgs rfl) ?_
      refine lnil ?_
      refine nblkN ?_
      refine nthen ?_
      refine creg ?_
      first | refine l1 (addn rfl rfl (ri (by omega) (by omega))) ?_ | refine l1 (add rfl rfl) ?_
      refine l1 (mvi rfl) ?_
      refine lnil ?_
      first | exact nI (i + 1, .slice (some ⟨g, 0, none⟩) ((rdyL l S.v i).length + 1) cap, re') ⟨by omega, by rw [rdyL_t h2, List.length_append, List.flatMap_append]; simpa using hown1⟩ (by show n - (i + 1) < n - i; omega) ⟨rfl, rfl, rfl, rfl, rfl, rfl, rfl, rfl, trivial⟩ (List.Sublist.cons_cons _ (List.Sublist.cons_cons _ (List.Sublist.cons _ (List.Sublist.cons _ (List.Sublist.refl _))))) | exact nI (i + 1, .slice rp (rdyL l S.v i).length rc, re) ⟨by omega, by rw [rdyL_f h2]; exact hown⟩ (by show n - (i + 1) < n - i; omega) ⟨rfl, rfl, rfl, rfl, rfl, rfl, rfl, rfl, trivial⟩ (List.Sublist.cons_cons _ (List.Sublist.cons_cons _ (List.Sublist.cons _ (List.Sublist.refl _))))
    · skip
      refine cskip ?_
      refine nblkN ?_
      refine nthen ?_
      refine creg ?_
      first | refine l1 (addn rfl rfl (ri (by omega) (by omega))) ?_ | refine l1 (add rfl rfl) ?_
      refine l1 (mvi rfl) ?_
      refine lnil ?_
      first | exact nI (i + 1, .slice (some ⟨g, 0, none⟩) ((rdyL l S.v i).length + 1) cap, re') ⟨by omega, by rw [rdyL_t h2, List.length_append, List.flatMap_append]; simpa using hown1⟩ (by show n - (i + 1) < n - i; omega) ⟨rfl, rfl, rfl, rfl, rfl, rfl, rfl, rfl, trivial⟩ (List.Sublist.cons_cons _ (List.Sublist.cons_cons _ (List.Sublist.cons _ (List.Sublist.cons _ (List.Sublist.refl _))))) | exact nI (i + 1, .slice rp (rdyL l S.v i).length rc, re) ⟨by omega, by rw [rdyL_f h2]; exact hown⟩ (by show n - (i + 1) < n - i; omega) ⟨rfl, rfl, rfl, rfl, rfl, rfl, rfl, rfl, trivial⟩ (List.Sublist.cons_cons _ (List.Sublist.cons_cons _ (List.Sublist.cons _ (List.Sublist.refl _))))
  · have hall : n = i := by (have := df h1; omega)
    refine cexit ?_
    refine nthenE ?_
    refine nIE ?_
    refine nblkE ?_
    refine nthen ?_
    refine cseq ?_
    refine cseq ?_
    refine creg ?_
    refine l1 (mvs rfl) ?_
    refine l1 (lens sl54 rfl rfl) ?_
    refine l1 (eql rfl rfl) ?_
    refine lnil ?_
    refine nthen ?_
    refine cif rfl (fun h3 => ?_) (fun h3 => ?_)
    · have hL0 : rdyL l S.v n = [] := by (subst hall; exact List.eq_nil_of_length_eq_zero (by have := dt h3; omega))
      have hno : pick ((List.range n).map l) S.v = none := pick_none.2 hL0
      refine cseq ?_
      refine cregT 3 mo (by kernel_rfl) ?_
      refine q1 (mv rfl) ?_
      refine q1 (ldw 0 Try.isAgg24 Try.sizeOf24 rfl rfl rfl) ?_
      refine q1 (asg rfl) ?_
      refine qtail ?_
      refine lstw 1 rfl rfl rfl Try.sizeOf24 rfl rfl rfl ?_
      refine lnil ?_
      refine nthen ?_
      refine cret ?_
      refine nthenR ?_
      refine nblkR ?_
      refine nIR ?_
      refine nblkR ?_
      exact finM _ (S.oe ++ S.tl) (rv2 rfl (rvt rfl) (rvc 1 Try.isAgg24 Try.sizeOf24 rfl rfl rfl rfl)) ⟨_, List.Perm.refl _, List.Sublist.cons _ (List.Sublist.cons _ (List.sublist_append_right _ _))⟩ ⟨S, rfl, rfl, hS, hno⟩
    · have hne : rdyL l S.v n ≠ [] := by (subst hall; intro he; have := df h3; rw [he] at this; exact this rfl)
      have hpk := pick_of (L := rdyL l S.v n) (hs := ((List.range n).map l)) (v := S.v) rfl hne
      have hLl := rdyL_len l S.v n
      obtain ⟨hmem, hrd, _⟩ := pick_spec hpk
      obtain ⟨q, hq, hqe⟩ := List.mem_map.1 hmem
      have hqn := List.mem_range.1 hq
      have hHx : HdIn w (minT (rdyL l S.v n) ((rdyL l S.v n).length - 1)) := by (have := hx q hqn; rw [hqe] at this; exact this)
      have hHk : HdOk (minT (rdyL l S.v n) ((rdyL l S.v n).length - 1)) := by (have := kx q hqn; rw [hqe] at this; exact this)
      have hw6 := formed_w (ready_formed hrd).1
      have hH20 : (minT (rdyL l S.v n) ((rdyL l S.v n).length - 1)).tn ≤ 20 := Nat.le_trans (formed_tn (ready_formed hrd).1) (by decide)
      rw [← hall] at hown
      have hown' := hown
      rw [← hall]
      have hpos : 0 < (rdyL l S.v n).length := List.length_pos_iff.2 hne
      obtain ⟨H, hHe⟩ : ∃ H, H = minT (rdyL l S.v n) ((rdyL l S.v n).length - 1) := ⟨_, rfl⟩
      rw [← hHe] at hpk hHx hHk hw6 hH20
      refine cskip ?_
      refine nthen ?_
      refine cseq ?_
      refine creg ?_
      refine l1 (mvs rfl) ?_
      refine l1 (cl (v := .agg (encH H).toArray) hb80 rfl (mc rfl (mc rfl mn)) (fun w' hw => by rw [hHe]; exact minf_calls w' _ _ _ (by omega) hpos (SlIn.sl (hown.slInL (fun a => rfl) (fun i hi => ⟨_, List.getElem?_eq_getElem hi, by rw [List.getD_eq_getElem?_getD, List.getElem?_eq_getElem hi]; rfl⟩)) (hw.sub (List.Sublist.cons _ (List.Sublist.cons _ (List.sublist_append_left _ _))))))) ?_
      refine lal (zs := encH hz) Try.zeroValue37 rfl (fun b5 => ?_)
      refine wl_perm (ins_perm 2 _ _) ?_
      refine lstw 2 rfl rfl rfl Try.sizeOf37 rfl rfl rfl ?_
      refine lnil ?_
      refine nthen ?_
      refine cseq ?_
      refine creg ?_
      refine l1 (fa fa37_7 rfl) ?_
      refine l1 (ldc 2 Try.isAgg35 rfl rfl rfl) ?_
      refine wl_sub (List.Sublist.cons_cons _ (List.Sublist.cons_cons _ (List.Sublist.cons_cons _ (List.sublist_append_right _ _)))) ?_
      refine lclm hb82 rfl (mc rfl mn) (fun w' hw => clone_calls w' _ _ _ _ hH20 (Sl.keptS hHx hw)) ?_
      rintro v34 Hn ⟨p', c', rfl, htk⟩
      refine wl_tail 3 ?_
      refine l1 (fa fa37_7 rfl) ?_
      refine lsts 2 rfl rfl rfl Try.sizeOf35 (lb rfl) (encH_setTok H p' c') ?_
      refine lnil ?_
      refine nthen ?_
      refine cseq ?_
      refine creg ?_
      refine l1 (mv rfl) ?_
      refine l1 (ldw 2 Try.isAgg37 Try.sizeOf37 rfl rfl rfl) ?_
      refine lbs Try.underlying54 rfl (bs54 _) (fun b6 => ?_)
      refine wl_perm (ins_perm 3 _ _) ?_
      refine lapp2 [_, _, _, _] S.tl Hn S.oe el54 rfl rfl hS.own rfl (news := encH { H with tp := p', tc := c' }) rfl (fun w' hw => by have := hw.mem (i := 3) rfl 0; simpa using this) (encH_one _) (by decide) (by have := path_len hS.path; rw [List.length_map, List.length_range] at this; unfold maxLen; omega) (by have := path_len hS.path; rw [List.length_map, List.length_range] at this; omega) ?_
      intro go co oe' hown2
      refine l1 (asg rfl) ?_
      refine lnil ?_
      refine nthen ?_
      refine creg ?_
      refine l1 (fa fa37_0 rfl) ?_
      refine l1 (ldc (v := .int .i64 H.writer) 2 Try.isAgg3 rfl rfl rfl) ?_
      refine l1 (subn rfl rfl (ri (by omega) (by omega))) ?_
      refine l1 (fa fa37_1 rfl) ?_
      refine l1 (ldc (v := .int .u64 H.seq) 2 Try.isAgg22 rfl rfl rfl) ?_
      refine l1 (ia ar24 rfl rfl (by omega) (by omega)) ?_
      refine lsti 0 rfl rfl rfl Try.sizeOf22 (by rw [show (encV S.v).length = 6 from rfl]; omega) (encV_set _ _ _ (by omega)) ?_
      refine lnil ?_
      refine nblkN ?_
      exact nI ⟨putV S.v H, S.O ++ [{ H with tp := p', tc := c' }], .slice (some ⟨go, 0, none⟩) (S.O.length + 1) co, oe', S.tl ++ Hn⟩ (OrdOk.next hS hpk hHk htk hown2) (put_later hpk) ⟨rfl, rfl, rfl, rfl, trivial⟩ (List.Sublist.cons_cons _ (List.Sublist.cons_cons _ (List.Sublist.cons _ (List.Sublist.cons _ (List.Sublist.refl _)))))
end Go.Proofs.Ytkdbjhlkahkobaa
/- walks, printed by a program of ours -/
namespace Go.Proofs.Ytkdbjhlkahkobaa
open Jal Go.RowKit
set_option maxRecDepth 100000
def fewT (l : Nat → Hd) (n : Nat) : Bool := (List.range (min n 100)).all fun i => !decide (((l i).tn : Int) > 20)
def fewB (l : Nat → Hd) (n : Nat) (k : Int) : Bool := fewT l n && decide ((n : Int) ≤ k)
theorem fewT_no {l : Nat → Hd} {n i : Nat} (hi : i < n) (h1 : i < 100) (h : ((l i).tn : Int) > 20) : fewT l n = false := by
  cases hf : fewT l n with
  | false => rfl
  | true =>
    unfold fewT at hf
    have := List.all_eq_true.1 hf i (List.mem_range.2 (by omega))
    simp at this; omega
theorem fewT_yes {l : Nat → Hd} {n : Nat} (h : ∀ i, i < n → i < 100 → ¬ ((l i).tn : Int) > 20) : fewT l n = true := by
  unfold fewT
  refine List.all_eq_true.2 fun i hi => ?_
  have := List.mem_range.1 hi
  have h1 := h i (by omega) (by omega)
  simp; omega

theorem few_calls (w : World) (p : Option Addr) (n c : Nat) (l : Nat → Hd) (k : Int) (hn : (n : Int) ≤ 9223372036854775807) (hl : Sl w p n 125 (fun i => encH (l i))) : Calls Try.prog 44 #[.slice p n c, .int .i64 k] w (Ret (.bool (fewB l n k)) w) := by
  refine fn_calls (n := 27) Try.func44 rfl rfl (lb rfl) ?_
  refine cseq ?_
  refine creg ?_
  refine l1 (asgb rfl) ?_
  refine lnil ?_
  refine nthen ?_
  refine cseq ?_
  refine cseq ?_
  refine creg ?_
  refine l1 (asgi rfl) ?_
  refine lnil ?_
  refine nthen ?_
  refine cblock ?_
  refine cloopI (σ := Nat) (fun s => [(0, .slice p n c), (1, .int .i64 k), (5, .int .i64 (s : Int))]) (fun s => []) (fun s => s ≤ n ∧ s ≤ 100 ∧ ∀ j, j < s → ¬ ((l j).tn : Int) > 20) (fun s => n + 1 - s) 0 ⟨Nat.zero_le _, by omega, fun j hj => by omega⟩ ⟨rfl, rfl, rfl, trivial⟩ (List.Sublist.refl _) ?_
  rintro i j hI
  show WC _ _ _ ([]) _ _ (over j [(0, .slice p n c), (1, .int .i64 k), (5, .int .i64 (i : Int))])
  replace hI : i ≤ n ∧ i ≤ 100 ∧ ∀ j, j < i → ¬ ((l j).tn : Int) > 20 := hI
  refine cseq ?_
  refine cseq ?_
  refine creg ?_
  refine l1 (mvi rfl) ?_
  refine l1 (mvs rfl) ?_
  refine l1 (lens sl54 rfl rfl) ?_
  refine l1 (lss rfl rfl) ?_
  refine l1 (mvb rfl) ?_
  refine l1g rfl (gwt rfl) (fun h => mvi rfl) ?_
  refine l1g rfl (gwt rfl) (fun h => lss (gvt h) rfl) ?_
  refine l1 (pk_and rfl rfl rfl) ?_
  refine lnil ?_
  refine nthen ?_
  refine cif rfl (fun h1 => ?_) (fun h1 => ?_)
  · have hlt : i < n ∧ i < 100 := by (simp at h1; omega)
    obtain ⟨b, o, hp, hbl, hm⟩ := hl.at hlt.1
    refine cskip ?_
    refine nthen ?_
    refine cseq ?_
    refine cblock ?_
    refine cseq ?_
    refine creg ?_
    refine l1 (mvs rfl) ?_
    refine l1 (mvi rfl) ?_
    refine l1 (isp sl54 hp rfl rfl (by omega) (by omega)) ?_
    refine l1 (fa fa37_7 rfl) ?_
    refine l1 (ldm (v := .slice (l i).tp (l i).tn (l i).tc) Try.isAgg35 rfl (fun w' hw => ((hm i hlt.1).kept hw.below hbl).at (encH_tokens _))) ?_
    refine l1 (lens sl35 rfl rfl) ?_
    refine l1 (gtr rfl rfl) ?_
    refine lnil ?_
    refine nthen ?_
    refine cif rfl (fun h2 => ?_) (fun h2 => ?_)
    · skip
      refine cseq ?_
      refine creg ?_
      refine l1 (asgb rfl) ?_
      refine lnil ?_
      refine nthen ?_
      refine cret ?_
      refine nblkR ?_
      refine nthenR ?_
      refine nIR ?_
      refine nblkR ?_
      refine nthenR ?_
      exact fin1b rfl rfl (by rw [fewB, fewT_no (by omega) (by omega) (dt h2)]; rfl)
    · skip
      refine cskip ?_
      refine nblkN ?_
      refine nthen ?_
      refine creg ?_
      refine l1 (mvi rfl) ?_
      first | refine l1 (addn rfl rfl (ri (by omega) (by omega))) ?_ | refine l1 (add rfl rfl) ?_
      refine l1 (asgi rfl) ?_
      refine lnil ?_
      exact nI (i + 1) ⟨by omega, by omega, fun j hj => (Nat.lt_succ_iff_lt_or_eq.1 hj).elim (fun h => hI.2.2 j h) (fun h => by subst h; exact df h2)⟩ (by show n + 1 - (i + 1) < n + 1 - i; omega) ⟨rfl, rfl, rfl, trivial⟩ (List.Sublist.refl _)
  · have hge : ¬ (i < n ∧ i < 100) := by (intro hc; simp at h1; omega)
    refine cexit ?_
    refine nthenE ?_
    refine nIE ?_
    refine nblkE ?_
    refine nthen ?_
    refine cseq ?_
    refine creg ?_
    refine l1 (mvs rfl) ?_
    refine l1 (lens sl54 rfl rfl) ?_
    refine l1 (mvi rfl) ?_
    refine l1 (leq rfl rfl) ?_
    refine l1 (asgb rfl) ?_
    refine lnil ?_
    refine nthen ?_
    refine cret ?_
    exact fin1b rfl rfl (by rw [fewB, fewT_yes (fun j hj h100 => hI.2.2 j (by omega))]; rfl)

theorem neqlArr {t e : TypeId} {n : Nat} {k : IntKind} {x y : Operand} (hu : Try.prog.underlying t = some (.array n e)) (he : Try.prog.underlying e = some (.int k)) (hs : Try.prog.cellsOf e = 1) (hg : Try.prog.eqGuardType Try.prog.depth t = false) (a b : Nat → Int) (w : World) :
    (do eqGuard .neq t x y (.agg (arr k n a).toArray) (.agg (arr k n b).toArray); binOp .neq t (.agg (arr k n a).toArray) (.agg (arr k n b).toArray)).run Try.prog w = .ok (.bool (!eqA n a b)) w := by
  have he : (Op.equal t (.agg (arr k n a).toArray) (.agg (arr k n b).toArray)).run Try.prog w = .ok (eqA n a b) w := arr_eq 9998 hu he hs a b w
  simp [eqGuard, binOp, Sem.run_bind, run_program, hg, he]
theorem neql34 {x y : Operand} (a b : Nat → Int) (w : World) : (do eqGuard .neq 34 x y (.agg (arr .u8 16 a).toArray) (.agg (arr .u8 16 b).toArray); binOp .neq 34 (.agg (arr .u8 16 a).toArray) (.agg (arr .u8 16 b).toArray)).run Try.prog w = .ok (.bool (!eqA 16 a b)) w := neqlArr Try.underlying34 Try.underlying5 (by kernel_rfl) (by kernel_rfl) a b w
theorem eql23 {x y : Operand} (a b : Nat → Int) (w : World) : (do eqGuard .eql 23 x y (.agg (arr .u64 6 a).toArray) (.agg (arr .u64 6 b).toArray); binOp .eql 23 (.agg (arr .u64 6 a).toArray) (.agg (arr .u64 6 b).toArray)).run Try.prog w = .ok (.bool (eqA 6 a b)) w := eqlArr Try.underlying23 Try.underlying22 (by kernel_rfl) (by kernel_rfl) a b w
def eqTok (n : Nat) (t : Nat → Nat → Int) (m : Nat) (u : Nat → Nat → Int) : Bool := bif decide ((n : Int) ≠ (m : Int)) then false else (List.range n).all fun i => eqA 16 (t i) (u i)
theorem eqTok_ne {n m : Nat} {t u : Nat → Nat → Int} (h : decide ((n : Int) ≠ (m : Int)) = true) : eqTok n t m u = false := by unfold eqTok; rw [h]; rfl
theorem eqTok_no {n m i : Nat} {t u : Nat → Nat → Int} (h : decide ((n : Int) ≠ (m : Int)) = false) (hi : i < n) (hne : eqA 16 (t i) (u i) = false) : eqTok n t m u = false := by
  unfold eqTok; rw [h]
  cases hf : (List.range n).all fun i => eqA 16 (t i) (u i) with
  | false => rfl
  | true => have := List.all_eq_true.1 hf i (List.mem_range.2 hi); rw [hne] at this; cases this
theorem eqTok_yes {n m : Nat} {t u : Nat → Nat → Int} (h : decide ((n : Int) ≠ (m : Int)) = false) (hall : ∀ i, i < n → eqA 16 (t i) (u i) = true) : eqTok n t m u = true := by
  unfold eqTok; rw [h]
  exact List.all_eq_true.2 fun i hi => hall i (List.mem_range.1 hi)
theorem eqA_refl (n : Nat) (a : Nat → Int) : eqA n a a = true := eqA_iff.2 fun _ _ => rfl
def sameH (a b : Hd) : Bool := bif !eqTok a.tn a.tok b.tn b.tok then false else (((((((((decide (a.writer = b.writer) && decide (a.seq = b.seq)) && eqA 32 a.prev b.prev) && decide (a.epoch = b.epoch)) && (a.control == b.control)) && decide (a.time = b.time)) && eqA 16 a.item b.item) && eqA 6 a.knows b.knows) && eqA 32 a.sum b.sum) && decide (a.size = b.size)) && eqA 32 a.code b.code
theorem same_core {a b : Hd} (h : core a = core b) : sameH a b = true := by
  have e : sameH a b = sameH (core a) (core b) := rfl
  rw [e, h]
  have ht : eqTok (core b).tn (core b).tok (core b).tn (core b).tok = true := eqTok_yes (by simp) (fun i _ => eqA_refl _ _)
  unfold sameH
  rw [ht]
  simp [eqA_refl]

theorem toksEq_calls (w : World) (p : Option Addr) (n c : Nat) (t : Nat → Nat → Int) (q : Option Addr) (m d : Nat) (u : Nat → Nat → Int) (hn : (n : Int) ≤ 9223372036854775807) (hl : Sl w p n 16 (fun i => arr .u8 16 (t i))) (hk : Sl w q m 16 (fun i => arr .u8 16 (u i))) : Calls Try.prog 83 #[.slice p n c, .slice q m d] w (Ret (.bool (eqTok n t m u)) w) := by
  refine fn_calls (n := 26) Try.func83 rfl rfl (lb rfl) ?_
  refine cseq ?_
  refine creg ?_
  refine l1 (asgb rfl) ?_
  refine lnil ?_
  refine nthen ?_
  refine cseq ?_
  refine cseq ?_
  refine creg ?_
  refine l1 (mvs rfl) ?_
  refine l1 (lens sl35 rfl rfl) ?_
  refine l1 (mvs rfl) ?_
  refine l1 (lens sl35 rfl rfl) ?_
  refine l1 (neq rfl rfl) ?_
  refine lnil ?_
  refine nthen ?_
  refine cif rfl (fun h1 => ?_) (fun h1 => ?_)
  · skip
    refine cseq ?_
    refine creg ?_
    refine l1 (asgb rfl) ?_
    refine lnil ?_
    refine nthen ?_
    refine cret ?_
    refine nthenR ?_
    exact fin1b rfl rfl ((eqTok_ne h1).symm)
  · have hnm : n = m := by (have := df2 h1; omega)
    refine cskip ?_
    refine nthen ?_
    refine cseq ?_
    refine cseq ?_
    refine creg ?_
    refine l1 (mvs rfl) ?_
    refine l1 (lens sl35 rfl rfl) ?_
    refine l1 (mvi rfl) ?_
    refine lnil ?_
    refine nthen ?_
    refine cblock ?_
    refine cloopI (σ := Nat) (fun s => [(0, .slice p n c), (1, .slice q m d), (12, .int .i64 (n : Int)), (13, .int .i64 (s : Int))]) (fun s => []) (fun s => s ≤ n ∧ ∀ j, j < s → eqA 16 (t j) (u j) = true) (fun s => n - s) 0 ⟨Nat.zero_le _, fun j hj => by omega⟩ ⟨rfl, rfl, rfl, rfl, trivial⟩ (List.Sublist.refl _) ?_
    rintro i j hI
    show WC _ _ _ ([]) _ _ (over j [(0, .slice p n c), (1, .slice q m d), (12, .int .i64 (n : Int)), (13, .int .i64 (i : Int))])
    replace hI : i ≤ n ∧ ∀ j, j < i → eqA 16 (t j) (u j) = true := hI
    refine cseq ?_
    refine creg ?_
    refine l1 (lss rfl rfl) ?_
    refine lnil ?_
    refine nthen ?_
    refine cseq ?_
    refine cif rfl (fun h2 => ?_) (fun h2 => ?_)
    · have hlt : i < n := by (have := dt h2; omega)
      obtain ⟨b, o, hp, hbl, hm⟩ := hl.at hlt
      obtain ⟨b2, o2, hq, hbl2, hm2⟩ := hk.at (i := i) (by omega)
      refine cskip ?_
      refine nthen ?_
      refine cseq ?_
      refine cblock ?_
      refine cseq ?_
      refine creg ?_
      refine l1 (mvi rfl) ?_
      refine l1 (asgi rfl) ?_
      refine lnil ?_
      refine nthen ?_
      refine cseq ?_
      refine cregq mo (by kernel_rfl) ?_
      refine q1 (mvs rfl) ?_
      refine q1 (mvi rfl) ?_
      refine q1 (isp sl35 hp rfl rfl (by omega) (by omega)) ?_
      refine q1 (ldam (vs := arr .u8 16 (t i)) Try.isAgg34 Try.sizeOf34 rfl rfl (fun w' hw => (hm i (by omega)).kept hw.below hbl)) ?_
      refine q1 (mvs rfl) ?_
      refine q1 (mvi rfl) ?_
      refine q1 (isp sl35 hq rfl rfl (by omega) (by omega)) ?_
      refine q1 (ldam (vs := arr .u8 16 (u i)) Try.isAgg34 Try.sizeOf34 rfl rfl (fun w' hw => (hm2 i (by omega)).kept hw.below hbl2)) ?_
      refine q1 (neqa rfl rfl (fun w => neql34 _ _ w)) ?_
      refine qnil ?_
      refine nthen ?_
      refine cif rfl (fun h3 => ?_) (fun h3 => ?_)
      · skip
        refine cseq ?_
        refine creg ?_
        refine l1 (asgb rfl) ?_
        refine lnil ?_
        refine nthen ?_
        refine cret ?_
        refine nblkR ?_
        refine nthenR ?_
        refine nIR ?_
        refine nblkR ?_
        refine nthenR ?_
        exact fin1b rfl rfl ((eqTok_no h1 hlt (by simpa using h3)).symm)
      · skip
        refine cskip ?_
        refine nblkN ?_
        refine nthen ?_
        refine creg ?_
        first | refine l1 (addn rfl rfl (ri (by omega) (by omega))) ?_ | refine l1 (add rfl rfl) ?_
        refine l1 (mvi rfl) ?_
        refine lnil ?_
        exact nI (i + 1) ⟨by omega, fun j hj => (Nat.lt_succ_iff_lt_or_eq.1 hj).elim (fun h => hI.2 j h) (fun h => by subst h; simpa using h3)⟩ (by show n - (i + 1) < n - i; omega) ⟨rfl, rfl, rfl, rfl, trivial⟩ (List.Sublist.refl _)
    · have hge : n ≤ i := by (have := df h2; omega)
      refine cexit ?_
      refine nthenE ?_
      refine nIE ?_
      refine nblkE ?_
      refine nthen ?_
      refine cseq ?_
      refine creg ?_
      refine l1 (asgb rfl) ?_
      refine lnil ?_
      refine nthen ?_
      refine cret ?_
      exact fin1b rfl rfl ((eqTok_yes h1 (fun j hj => hI.2 j (by omega))).symm)

set_option maxHeartbeats 1000000 in
theorem sameH_calls (a b : Hd) (w : World) (ha : HdIn w a) (hb : HdIn w b) (ka : HdOk a) : Calls Try.prog 47 #[.agg (encH a).toArray, .agg (encH b).toArray] w (Ret (.bool (sameH a b)) w) := by
  refine fn_calls (n := 86) Try.func47 rfl rfl (lb rfl) ?_
  refine cseq ?_
  refine creg ?_
  refine lbxa rfl (fun b1 => ?_)
  refine lbxa rfl (fun b2 => ?_)
  refine l1 (asgb rfl) ?_
  refine lnil ?_
  refine nthen ?_
  refine cseq ?_
  refine cseq ?_
  refine creg ?_
  refine l1 (fa fa37_7 rfl) ?_
  refine l1 (ldc 0 Try.isAgg35 rfl rfl rfl) ?_
  refine l1 (fa fa37_7 rfl) ?_
  refine l1 (ldc 1 Try.isAgg35 rfl rfl rfl) ?_
  refine l1 (cl hb83 rfl (mc rfl (mc rfl mn)) (fun w hw => toksEq_calls _ _ _ _ _ _ _ _ _ ka.n (Sl.keptS ha hw) (Sl.keptS hb hw))) ?_
  refine l1 (nt rfl) ?_
  refine lnil ?_
  refine nthen ?_
  refine cif rfl (fun h1 => ?_) (fun h1 => ?_)
  · skip
    refine cseq ?_
    refine creg ?_
    refine l1 (asgb rfl) ?_
    refine lnil ?_
    refine nthen ?_
    refine cret ?_
    refine nthenR ?_
    exact fin1b rfl rfl (by simp only [sameH, h1, cond_true, cond_false]; try rfl)
  · skip
    refine cskip ?_
    refine nthen ?_
    refine cseq ?_
    refine creg ?_
    refine l1 (fa fa37_0 rfl) ?_
    refine l1 (ldc 0 Try.isAgg3 rfl rfl rfl) ?_
    refine l1 (fa fa37_0 rfl) ?_
    refine l1 (ldc 1 Try.isAgg3 rfl rfl rfl) ?_
    refine l1 (eql rfl rfl) ?_
    refine l1 (mvb rfl) ?_
    refine l1g rfl (gwt rfl) (fun h => fa fa37_1 rfl) ?_
    refine l1g rfl (gwt rfl) (fun h => ldc 0 Try.isAgg22 rfl (gvt h) rfl) ?_
    refine l1g rfl (gwt rfl) (fun h => fa fa37_1 rfl) ?_
    refine l1g rfl (gwt rfl) (fun h => ldc 1 Try.isAgg22 rfl (gvt h) rfl) ?_
    refine l1g rfl (gwt rfl) (fun h => eql (gvt h) (gvt h)) ?_
    refine l1 (pk_and rfl rfl rfl) ?_
    refine l1 (mvb rfl) ?_
    refine l1g rfl (gwt rfl) (fun h => fa fa37_2 rfl) ?_
    refine l1g rfl (gwt rfl) (fun h => lda 0 Try.isAgg32 Try.sizeOf32 rfl (gvt h) (encH_prev _) rfl) ?_
    refine l1g rfl (gwt rfl) (fun h => fa fa37_2 rfl) ?_
    refine l1g rfl (gwt rfl) (fun h => lda 1 Try.isAgg32 Try.sizeOf32 rfl (gvt h) (encH_prev _) rfl) ?_
    refine l1g rfl (gwt rfl) (fun h => eqla (gvt h) (gvt h) (fun w => eql32 _ _ w)) ?_
    refine l1 (pk_and rfl rfl rfl) ?_
    refine l1 (mvb rfl) ?_
    refine l1g rfl (gwt rfl) (fun h => fa fa37_3 rfl) ?_
    refine l1g rfl (gwt rfl) (fun h => ldc 0 Try.isAgg3 rfl (gvt h) rfl) ?_
    refine l1g rfl (gwt rfl) (fun h => fa fa37_3 rfl) ?_
    refine l1g rfl (gwt rfl) (fun h => ldc 1 Try.isAgg3 rfl (gvt h) rfl) ?_
    refine l1g rfl (gwt rfl) (fun h => eql (gvt h) (gvt h)) ?_
    refine l1 (pk_and rfl rfl rfl) ?_
    refine l1 (mvb rfl) ?_
    refine l1g rfl (gwt rfl) (fun h => fa fa37_4 rfl) ?_
    refine l1g rfl (gwt rfl) (fun h => ldc 0 Try.isAgg4 rfl (gvt h) rfl) ?_
    refine l1g rfl (gwt rfl) (fun h => fa fa37_4 rfl) ?_
    refine l1g rfl (gwt rfl) (fun h => ldc 1 Try.isAgg4 rfl (gvt h) rfl) ?_
    refine l1g rfl (gwt rfl) (fun h => eqlb Try.underlying4 (gvt h) (gvt h)) ?_
    refine l1 (pk_and rfl rfl rfl) ?_
    refine l1 (mvb rfl) ?_
    refine l1g rfl (gwt rfl) (fun h => fa fa37_5 rfl) ?_
    refine l1g rfl (gwt rfl) (fun h => ldc 0 Try.isAgg22 rfl (gvt h) rfl) ?_
    refine l1g rfl (gwt rfl) (fun h => fa fa37_5 rfl) ?_
    refine l1g rfl (gwt rfl) (fun h => ldc 1 Try.isAgg22 rfl (gvt h) rfl) ?_
    refine l1g rfl (gwt rfl) (fun h => eql (gvt h) (gvt h)) ?_
    refine l1 (pk_and rfl rfl rfl) ?_
    refine l1 (mvb rfl) ?_
    refine l1g rfl (gwt rfl) (fun h => fa fa37_6 rfl) ?_
    refine l1g rfl (gwt rfl) (fun h => lda 0 Try.isAgg34 Try.sizeOf34 rfl (gvt h) (encH_item _) rfl) ?_
    refine l1g rfl (gwt rfl) (fun h => fa fa37_6 rfl) ?_
    refine l1g rfl (gwt rfl) (fun h => lda 1 Try.isAgg34 Try.sizeOf34 rfl (gvt h) (encH_item _) rfl) ?_
    refine l1g rfl (gwt rfl) (fun h => eqla (gvt h) (gvt h) (fun w => eql34 _ _ w)) ?_
    refine l1 (pk_and rfl rfl rfl) ?_
    refine l1 (mvb rfl) ?_
    refine l1g rfl (gwt rfl) (fun h => fa fa37_8 rfl) ?_
    refine l1g rfl (gwt rfl) (fun h => lda 0 Try.isAgg23 Try.sizeOf23 rfl (gvt h) (encH_knows _) rfl) ?_
    refine l1g rfl (gwt rfl) (fun h => fa fa37_8 rfl) ?_
    refine l1g rfl (gwt rfl) (fun h => lda 1 Try.isAgg23 Try.sizeOf23 rfl (gvt h) (encH_knows _) rfl) ?_
    refine l1g rfl (gwt rfl) (fun h => eqla (gvt h) (gvt h) (fun w => eql23 _ _ w)) ?_
    refine l1 (pk_and rfl rfl rfl) ?_
    refine l1 (mvb rfl) ?_
    refine l1g rfl (gwt rfl) (fun h => fa fa37_9 rfl) ?_
    refine l1g rfl (gwt rfl) (fun h => lda 0 Try.isAgg32 Try.sizeOf32 rfl (gvt h) (encH_sum _) rfl) ?_
    refine l1g rfl (gwt rfl) (fun h => fa fa37_9 rfl) ?_
    refine l1g rfl (gwt rfl) (fun h => lda 1 Try.isAgg32 Try.sizeOf32 rfl (gvt h) (encH_sum _) rfl) ?_
    refine l1g rfl (gwt rfl) (fun h => eqla (gvt h) (gvt h) (fun w => eql32 _ _ w)) ?_
    refine l1 (pk_and rfl rfl rfl) ?_
    refine l1 (mvb rfl) ?_
    refine l1g rfl (gwt rfl) (fun h => fa fa37_10 rfl) ?_
    refine l1g rfl (gwt rfl) (fun h => ldc 0 Try.isAgg3 rfl (gvt h) rfl) ?_
    refine l1g rfl (gwt rfl) (fun h => fa fa37_10 rfl) ?_
    refine l1g rfl (gwt rfl) (fun h => ldc 1 Try.isAgg3 rfl (gvt h) rfl) ?_
    refine l1g rfl (gwt rfl) (fun h => eql (gvt h) (gvt h)) ?_
    refine l1 (pk_and rfl rfl rfl) ?_
    refine l1 (mvb rfl) ?_
    refine l1g rfl (gwt rfl) (fun h => fa fa37_11 rfl) ?_
    refine l1g rfl (gwt rfl) (fun h => lda 0 Try.isAgg32 Try.sizeOf32 rfl (gvt h) (encH_code _) rfl) ?_
    refine l1g rfl (gwt rfl) (fun h => fa fa37_11 rfl) ?_
    refine l1g rfl (gwt rfl) (fun h => lda 1 Try.isAgg32 Try.sizeOf32 rfl (gvt h) (encH_code _) rfl) ?_
    refine l1g rfl (gwt rfl) (fun h => eqla (gvt h) (gvt h) (fun w => eql32 _ _ w)) ?_
    refine l1 (pk_and rfl rfl rfl) ?_
    refine l1 (asgb rfl) ?_
    refine lnil ?_
    refine nthen ?_
    refine cret ?_
    exact fin1b rfl rfl (by simp only [sameH, h1, cond_true, cond_false]; try rfl)
end Go.Proofs.Ytkdbjhlkahkobaa
/- rows as plain data -/
namespace Go.Proofs.Ytkdbjhlkahkobaa
open Jal Go.RowKit
set_option maxRecDepth 100000
structure Ch where
  op : Int
  name : ByteArray
  gp : Option Addr
  gn : Nat
  gc : Nat
  tag : Nat → ByteArray
  value : ByteArray
def encCh (c : Ch) : List Value := [.int .i64 c.op, .string c.name, .slice c.gp c.gn c.gc, .string c.value]
def encT (s : ByteArray) : List Value := [.string s]
def ChIn (w : World) (c : Ch) : Prop := Sl w c.gp c.gn 1 (fun i => encT (c.tag i))
structure ChOk (c : Ch) : Prop where
  o : I64 c.op
  n : (c.gn : Int) ≤ 9223372036854775807
  m : c.name.size ≤ maxLen
  v : c.value.size ≤ maxLen
  t : ∀ i, i < c.gn → (c.tag i).size ≤ maxLen
structure Rw where
  hd : Hd
  known : Bool
  ch : Ch
def encR (r : Rw) : List Value := encH r.hd ++ (.bool r.known :: encCh r.ch)
theorem encR_hd (r : Rw) : ((encR r).drop 0).take 125 = encH r.hd := rfl
theorem encR_known (r : Rw) : (encR r)[125]? = some (.bool r.known) := rfl
theorem encR_ch (r : Rw) : ((encR r).drop 126).take 4 = encCh r.ch := rfl
theorem encR_len (r : Rw) : (encR r).length = 130 := rfl
theorem encR_item (r : Rw) : ((encR r).drop 37).take 16 = arr .u8 16 r.hd.item := rfl
theorem encR_one (r : Rw) : ∀ u ∈ encR r, u.oneCell' = true := oneA rfl
structure RwIn (w : World) (r : Rw) : Prop where
  h : HdIn w r.hd
  c : ChIn w r.ch
structure RwOk (r : Rw) : Prop where
  h : HdOk r.hd
  c : ChOk r.ch
theorem RwIn.keptS {w0 w : World} {H : List Ent} {r : Rw} (h : RwIn w0 r) (hw : Sat w0 H w) : RwIn w r := ⟨Sl.keptS h.h hw, Sl.keptS h.c hw⟩
/-! ### texts -/
theorem bl_irrefl : ∀ (a : List UInt8), Op.bytesLess a a = false
  | [] => rfl
  | x :: a => by simp [Op.bytesLess, bl_irrefl a]
theorem bl_total : ∀ (a b : List UInt8), (!Op.bytesLess a b) = (Op.bytesLess b a || b == a)
  | [], [] => rfl
  | [], _ :: _ => rfl
  | _ :: _, [] => rfl
  | x :: a, y :: b => by
    have ih := bl_total a b
    unfold Op.bytesLess
    by_cases h : x = y
    · subst h
      simp [ih]
    · have h2 : ¬ y = x := fun e => h e.symm
      rcases Nat.lt_or_gt_of_ne (fun e => h (UInt8.toNat_inj.1 e)) with hlt | hlt
      · have h3 : x < y := UInt8.lt_iff_toNat_lt.2 hlt
        have h4 : ¬ y < x := fun hc => by have := UInt8.lt_iff_toNat_lt.1 hc; omega
        simp [h, h2, h3, h4]
      · have h3 : y < x := UInt8.lt_iff_toNat_lt.2 hlt
        have h4 : ¬ x < y := fun hc => by have := UInt8.lt_iff_toNat_lt.1 hc; omega
        simp [h, h2, h3, h4]
def nameB (s : ByteArray) : Bool := decide ((s.size : Int) ≥ 1) && decide ((s.size : Int) ≤ 24)
/-- what is wrong with the i-th tag -/
def tagBad (t : Nat → ByteArray) (i : Nat) : Bool := !nameB (t i) || (decide ((i : Int) > 0) && !Op.bytesLess (t (i - 1)).toList (t i).toList)
def tagsB (n : Nat) (t : Nat → ByteArray) : Bool := !(List.range n).any (tagBad t)
theorem tags_bad {n i : Nat} {t : Nat → ByteArray} (hi : i < n) (h : tagBad t i = true) : tagsB n t = false := by
  unfold tagsB
  rw [List.any_eq_true.2 ⟨i, List.mem_range.2 hi, h⟩]; rfl
theorem tags_good {n : Nat} {t : Nat → ByteArray} (h : ∀ i, i < n → tagBad t i = false) : tagsB n t = true := by
  unfold tagsB
  have : (List.range n).any (tagBad t) = false := by
    rw [List.any_eq_false]
    intro i hi
    rw [h i (List.mem_range.1 hi)]; simp
  rw [this]; rfl
def emptyB (s : ByteArray) : Bool := s.toList == (ByteArray.mk #[]).toList
def fchB (c : Ch) : Bool := bif ((!nameB c.name || !(tagsB c.gn c.tag && decide ((c.gn : Int) ≤ 8))) || decide ((c.value.size : Int) > 512)) then false else
  bif decide (c.op = 2) then (bif decide ((c.gn : Int) > 0) then false else emptyB c.value) else bif decide (c.op = 3) then emptyB c.value else decide (c.op = 1)
def blankB (c : Ch) : Bool := ((decide (c.op = 0) && emptyB c.name) && decide ((c.gn : Int) = 0)) && emptyB c.value
def formedR (r : Rw) : Bool := bif !formedH r.hd || r.hd.control then false else bif r.known then fchB r.ch else blankB r.ch
end Go.Proofs.Ytkdbjhlkahkobaa
/- walks, printed by a program of ours -/
namespace Go.Proofs.Ytkdbjhlkahkobaa
open Jal Go.RowKit
set_option maxRecDepth 100000
theorem name_calls (s : ByteArray) (w : World) : Calls Try.prog 120 #[.string s] w (Ret (.bool (nameB s)) w) := by
  refine fn_calls (n := 11) Try.func120 rfl rfl (lb rfl) ?_
  refine cseq ?_
  refine creg ?_
  refine l1 (asgb rfl) ?_
  refine lnil ?_
  refine nthen ?_
  refine cseq ?_
  refine creg ?_
  refine l1 (mvt rfl) ?_
  refine l1 (lenstr Try.underlying9 rfl rfl) ?_
  refine l1 (geq rfl rfl) ?_
  refine l1 (mvb rfl) ?_
  refine l1g rfl (gwt rfl) (fun h => mvt rfl) ?_
  refine l1g rfl (gwt rfl) (fun h => lenstr Try.underlying9 rfl (gvt h)) ?_
  refine l1g rfl (gwt rfl) (fun h => leq (gvt h) rfl) ?_
  refine l1 (pk_and rfl rfl rfl) ?_
  refine l1 (asgb rfl) ?_
  refine lnil ?_
  refine nthen ?_
  refine cret ?_
  exact fin1 rfl rfl

theorem rname_calls (s : ByteArray) (w : World) : Calls Try.prog 113 #[.string s] w (Ret (.bool (nameB s)) w) := by
  refine fn_calls (n := 11) Try.func113 rfl rfl (lb rfl) ?_
  refine cseq ?_
  refine creg ?_
  refine l1 (asgb rfl) ?_
  refine lnil ?_
  refine nthen ?_
  refine cseq ?_
  refine creg ?_
  refine l1 (mvt rfl) ?_
  refine l1 (lenstr Try.underlying9 rfl rfl) ?_
  refine l1 (geq rfl rfl) ?_
  refine l1 (mvb rfl) ?_
  refine l1g rfl (gwt rfl) (fun h => mvt rfl) ?_
  refine l1g rfl (gwt rfl) (fun h => lenstr Try.underlying9 rfl (gvt h)) ?_
  refine l1g rfl (gwt rfl) (fun h => leq (gvt h) rfl) ?_
  refine l1 (pk_and rfl rfl rfl) ?_
  refine l1 (asgb rfl) ?_
  refine lnil ?_
  refine nthen ?_
  refine cret ?_
  exact fin1 rfl rfl

theorem tags_calls (w : World) (p : Option Addr) (n c : Nat) (t : Nat → ByteArray) (hn : (n : Int) ≤ 9223372036854775807) (hl : Sl w p n 1 (fun i => encT (t i))) : Calls Try.prog 121 #[.slice p n c] w (Ret (.bool (tagsB n t && decide ((n : Int) ≤ 8))) w) := by
  refine fn_calls (n := 32) Try.func121 rfl rfl (lb rfl) ?_
  refine cseq ?_
  refine creg ?_
  refine l1 (asgb rfl) ?_
  refine lnil ?_
  refine nthen ?_
  refine cseq ?_
  refine cseq ?_
  refine creg ?_
  refine l1 (mvs rfl) ?_
  refine l1 (lens sl75 rfl rfl) ?_
  refine l1 (mvi rfl) ?_
  refine lnil ?_
  refine nthen ?_
  refine cblock ?_
  refine cloopI (σ := Nat) (fun s => [(0, .slice p n c), (5, .slice p n c), (6, .int .i64 (n : Int)), (7, .int .i64 (s : Int))]) (fun s => []) (fun s => s ≤ n ∧ ∀ j, j < s → tagBad t j = false) (fun s => n - s) 0 ⟨Nat.zero_le _, fun j hj => by omega⟩ ⟨rfl, rfl, rfl, rfl, trivial⟩ (List.Sublist.refl _) ?_
  rintro i j hI
  show WC _ _ _ ([]) _ _ (over j [(0, .slice p n c), (5, .slice p n c), (6, .int .i64 (n : Int)), (7, .int .i64 (i : Int))])
  replace hI : i ≤ n ∧ ∀ j, j < i → tagBad t j = false := hI
  refine cseq ?_
  refine creg ?_
  refine l1 (lss rfl rfl) ?_
  refine lnil ?_
  refine nthen ?_
  refine cseq ?_
  refine cif rfl (fun h1 => ?_) (fun h1 => ?_)
  · have hlt : i < n := by (have := dt h1; omega)
    obtain ⟨b, o, hp, hbl, hm⟩ := hl.at hlt
    refine cskip ?_
    refine nthen ?_
    refine cseq ?_
    refine cblock ?_
    refine cseq ?_
    refine creg ?_
    refine l1 (mvi rfl) ?_
    refine l1 (isp sl75 hp rfl rfl (by omega) (by omega)) ?_
    refine l1 (ldm (v := .string (t i)) Try.isAgg9 rfl (fun w' hw => ((hm i hlt).kept hw.below hbl).c0)) ?_
    refine l1 (asgi rfl) ?_
    refine l1 (asgt rfl) ?_
    refine lnil ?_
    refine nthen ?_
    refine cseq ?_
    refine creg ?_
    refine l1 (mvt rfl) ?_
    refine l1 (cl hb120 rfl (mc rfl mn) (fun w hw => name_calls _ w)) ?_
    refine l1 (nt rfl) ?_
    refine l1 (mvb rfl) ?_
    refine l1g rfl (gwf rfl) (fun h => mvi rfl) ?_
    refine l1g rfl (gwf rfl) (fun h => gtr (gvt h) rfl) ?_
    refine l1g rfl (gwf rfl) (fun h => mvb (gvt h)) ?_
    refine l1g rfl (ggt rfl) (fun h => mvs rfl) ?_
    refine l1g rfl (ggt rfl) (fun h => mvi rfl) ?_
    refine l1g rfl (ggt rfl) (fun h => subn (gvt h) rfl (ri (by omega) (by omega))) ?_
    refine l1g rfl (ggt rfl) (fun h => isp sl75 hp (gvt h) (gvt h) (by simp at h; omega) (by omega)) ?_
    refine l1g rfl (ggt rfl) (fun h => ldm (v := .string (t (i - 1))) Try.isAgg9 (gvt h) (fun w' hw => by rw [show ((i : Int) - 1).toNat = i - 1 from by omega]; exact ((hm (i - 1) (by omega)).kept hw.below hbl).c0)) ?_
    refine l1g rfl (ggt rfl) (fun h => mvt rfl) ?_
    refine l1g rfl (ggt rfl) (fun h => geqs (gvt h) (gvt h)) ?_
    refine l1g rfl (gwf rfl) (fun h => pk_and (gvt h) (gva h) rfl) ?_
    refine l1 (pk_or rfl rfl rfl) ?_
    refine lnil ?_
    refine nthen ?_
    refine cif rfl (fun h2 => ?_) (fun h2 => ?_)
    · change tagBad t i = _ at h2
      refine cseq ?_
      refine creg ?_
      refine l1 (asgb rfl) ?_
      refine lnil ?_
      refine nthen ?_
      refine cret ?_
      refine nblkR ?_
      refine nthenR ?_
      refine nIR ?_
      refine nblkR ?_
      refine nthenR ?_
      exact fin1b rfl rfl (by rw [tags_bad hlt h2]; rfl)
    · change tagBad t i = _ at h2
      refine cskip ?_
      refine nblkN ?_
      refine nthen ?_
      refine creg ?_
      first | refine l1 (addn rfl rfl (ri (by omega) (by omega))) ?_ | refine l1 (add rfl rfl) ?_
      refine l1 (mvi rfl) ?_
      refine lnil ?_
      exact nI (i + 1) ⟨by omega, fun j hj => (Nat.lt_succ_iff_lt_or_eq.1 hj).elim (fun h => hI.2 j h) (fun h => by subst h; exact h2)⟩ (by show n - (i + 1) < n - i; omega) ⟨rfl, rfl, rfl, rfl, trivial⟩ (List.Sublist.refl _)
  · skip
    refine cexit ?_
    refine nthenE ?_
    refine nIE ?_
    refine nblkE ?_
    refine nthen ?_
    refine cseq ?_
    refine creg ?_
    refine l1 (mvs rfl) ?_
    refine l1 (lens sl75 rfl rfl) ?_
    refine l1 (leq rfl rfl) ?_
    refine l1 (asgb rfl) ?_
    refine lnil ?_
    refine nthen ?_
    refine cret ?_
    exact fin1b rfl rfl (by rw [tags_good (fun j hj => hI.2 j (by have := df h1; omega))]; rfl)

theorem fch_calls (c : Ch) (w : World) (hc : ChIn w c) (kc : ChOk c) : Calls Try.prog 89 #[.agg (encCh c).toArray] w (Ret (.bool (fchB c)) w) := by
  refine fn_calls (n := 35) Try.func89 rfl rfl (lb rfl) ?_
  refine cseq ?_
  refine creg ?_
  refine lbxa rfl (fun b1 => ?_)
  refine l1 (asgb rfl) ?_
  refine lnil ?_
  refine nthen ?_
  refine cseq ?_
  refine cseq ?_
  refine creg ?_
  refine l1 (fa fa77_1 rfl) ?_
  refine l1 (ldc 0 Try.isAgg9 rfl rfl rfl) ?_
  refine l1 (cl hb120 rfl (mc rfl mn) (fun w hw => name_calls _ w)) ?_
  refine l1 (nt rfl) ?_
  refine l1 (mvb rfl) ?_
  refine l1g rfl (gwf rfl) (fun h => fa fa77_2 rfl) ?_
  refine l1g rfl (gwf rfl) (fun h => ldc 0 Try.isAgg75 rfl (gvt h) rfl) ?_
  refine l1g rfl (gwf rfl) (fun h => cl hb121 rfl (mc (gvt h) mn) (fun w hw => tags_calls w _ _ _ _ kc.n (Sl.keptS hc hw))) ?_
  refine l1g rfl (gwf rfl) (fun h => nt (gvt h)) ?_
  refine l1 (pk_or rfl rfl rfl) ?_
  refine l1 (mvb rfl) ?_
  refine l1g rfl (gwf rfl) (fun h => fa fa77_3 rfl) ?_
  refine l1g rfl (gwf rfl) (fun h => ldc 0 Try.isAgg9 rfl (gvt h) rfl) ?_
  refine l1g rfl (gwf rfl) (fun h => lenstr Try.underlying9 rfl (gvt h)) ?_
  refine l1g rfl (gwf rfl) (fun h => gtr (gvt h) rfl) ?_
  refine l1 (pk_or rfl rfl rfl) ?_
  refine lnil ?_
  refine nthen ?_
  refine cif rfl (fun h1 => ?_) (fun h1 => ?_)
  · skip
    refine cseq ?_
    refine creg ?_
    refine l1 (asgb rfl) ?_
    refine lnil ?_
    refine nthen ?_
    refine cret ?_
    refine nthenR ?_
    exact fin1b rfl rfl (by first | rfl | (simp only [fchB, h1, cond_true, cond_false]; done) | (simp only [fchB, h1, cond_true, cond_false]; rfl))
  · skip
    refine cskip ?_
    refine nthen ?_
    refine cseq ?_
    refine cseq ?_
    refine creg ?_
    refine l1 (fa fa77_0 rfl) ?_
    refine l1 (ldc 0 Try.isAgg3 rfl rfl rfl) ?_
    refine lnil ?_
    refine nthen ?_
    refine cblock ?_
    refine cseq ?_
    refine cblock ?_
    refine cseq ?_
    refine cblock ?_
    refine cseq ?_
    refine cseq ?_
    refine cseq ?_
    refine creg ?_
    refine l1 (eql rfl rfl) ?_
    refine l1 (asgb rfl) ?_
    refine lnil ?_
    refine nthen ?_
    refine cif rfl (fun h2 => ?_) (fun h2 => ?_)
    · skip
      refine cexit ?_
      refine nthenE ?_
      refine nthenE ?_
      refine nblkE ?_
      refine nthen ?_
      refine cseq ?_
      refine creg ?_
      refine l1 (fa fa77_2 rfl) ?_
      refine l1 (ldc 0 Try.isAgg75 rfl rfl rfl) ?_
      refine l1 (lens sl75 rfl rfl) ?_
      refine l1 (gtr rfl rfl) ?_
      refine lnil ?_
      refine nthen ?_
      refine cif rfl (fun h3 => ?_) (fun h3 => ?_)
      · skip
        refine cseq ?_
        refine creg ?_
        refine l1 (asgb rfl) ?_
        refine lnil ?_
        refine nthen ?_
        refine cret ?_
        refine nblkR ?_
        refine nthenR ?_
        refine nblkR ?_
        refine nthenR ?_
        exact fin1b rfl rfl (by first | rfl | (simp only [fchB, h1, h2, h3, cond_true, cond_false]; done) | (simp only [fchB, h1, h2, h3, cond_true, cond_false]; rfl))
      · skip
        refine cskip ?_
        refine nblkN ?_
        refine nthen ?_
        refine cseq ?_
        refine cseq ?_
        refine creg ?_
        refine l1 (fa fa77_3 rfl) ?_
        refine l1 (ldc 0 Try.isAgg9 rfl rfl rfl) ?_
        refine l1 (eqls rfl rfl) ?_
        refine l1 (asgb rfl) ?_
        refine lnil ?_
        refine nthen ?_
        refine cret ?_
        refine nthenR ?_
        refine nblkR ?_
        refine nthenR ?_
        exact fin1b rfl rfl (by first | rfl | (simp only [fchB, h1, h2, h3, cond_true, cond_false]; done) | (simp only [fchB, h1, h2, h3, cond_true, cond_false]; rfl))
    · skip
      refine cskip ?_
      refine nthen ?_
      refine cseq ?_
      refine creg ?_
      refine l1 (eql rfl rfl) ?_
      refine l1 (asgb rfl) ?_
      refine lnil ?_
      refine nthen ?_
      refine cif rfl (fun h4 => ?_) (fun h4 => ?_)
      · skip
        refine cexit ?_
        refine nthenE ?_
        refine nblkO (by decide) ?_
        refine nthenE ?_
        refine nblkE ?_
        refine nthen ?_
        refine cseq ?_
        refine cseq ?_
        refine creg ?_
        refine l1 (fa fa77_3 rfl) ?_
        refine l1 (ldc 0 Try.isAgg9 rfl rfl rfl) ?_
        refine l1 (eqls rfl rfl) ?_
        refine l1 (asgb rfl) ?_
        refine lnil ?_
        refine nthen ?_
        refine cret ?_
        refine nthenR ?_
        refine nblkR ?_
        refine nthenR ?_
        exact fin1b rfl rfl (by first | rfl | (simp only [fchB, h1, h2, h4, cond_true, cond_false]; done) | (simp only [fchB, h1, h2, h4, cond_true, cond_false]; rfl))
      · skip
        refine cskip ?_
        refine nthen ?_
        refine cexit ?_
        refine nblkO (by decide) ?_
        refine nthenE ?_
        refine nblkO (by decide) ?_
        refine nthenE ?_
        refine nblkE ?_
        refine nthen ?_
        refine cseq ?_
        refine creg ?_
        refine l1 (fa fa77_0 rfl) ?_
        refine l1 (ldc 0 Try.isAgg3 rfl rfl rfl) ?_
        refine l1 (eql rfl rfl) ?_
        refine l1 (asgb rfl) ?_
        refine lnil ?_
        refine nthen ?_
        refine cret ?_
        exact fin1b rfl rfl (by first | rfl | (simp only [fchB, h1, h2, h4, cond_true, cond_false]; done) | (simp only [fchB, h1, h2, h4, cond_true, cond_false]; rfl))

theorem blank_calls (c : Ch) (w : World) : Calls Try.prog 90 #[.agg (encCh c).toArray] w (Ret (.bool (blankB c)) w) := by
  refine fn_calls (n := 22) Try.func90 rfl rfl (lb rfl) ?_
  refine cseq ?_
  refine creg ?_
  refine lbxa rfl (fun b1 => ?_)
  refine l1 (asgb rfl) ?_
  refine lnil ?_
  refine nthen ?_
  refine cseq ?_
  refine creg ?_
  refine l1 (fa fa77_0 rfl) ?_
  refine l1 (ldc 0 Try.isAgg3 rfl rfl rfl) ?_
  refine l1 (eql rfl rfl) ?_
  refine l1 (mvb rfl) ?_
  refine l1g rfl (gwt rfl) (fun h => fa fa77_1 rfl) ?_
  refine l1g rfl (gwt rfl) (fun h => ldc 0 Try.isAgg9 rfl (gvt h) rfl) ?_
  refine l1g rfl (gwt rfl) (fun h => eqls (gvt h) rfl) ?_
  refine l1 (pk_and rfl rfl rfl) ?_
  refine l1 (mvb rfl) ?_
  refine l1g rfl (gwt rfl) (fun h => fa fa77_2 rfl) ?_
  refine l1g rfl (gwt rfl) (fun h => ldc 0 Try.isAgg75 rfl (gvt h) rfl) ?_
  refine l1g rfl (gwt rfl) (fun h => lens sl75 rfl (gvt h)) ?_
  refine l1g rfl (gwt rfl) (fun h => eql (gvt h) rfl) ?_
  refine l1 (pk_and rfl rfl rfl) ?_
  refine l1 (mvb rfl) ?_
  refine l1g rfl (gwt rfl) (fun h => fa fa77_3 rfl) ?_
  refine l1g rfl (gwt rfl) (fun h => ldc 0 Try.isAgg9 rfl (gvt h) rfl) ?_
  refine l1g rfl (gwt rfl) (fun h => eqls (gvt h) rfl) ?_
  refine l1 (pk_and rfl rfl rfl) ?_
  refine l1 (asgb rfl) ?_
  refine lnil ?_
  refine nthen ?_
  refine cret ?_
  exact fin1 rfl rfl

theorem rowformed_calls (x : Rw) (w : World) (hx : RwIn w x) (kx : RwOk x) : Calls Try.prog 54 #[.agg (encR x).toArray] w (Ret (.bool (formedR x)) w) := by
  refine fn_calls (n := 20) Try.func54 rfl rfl (lb rfl) ?_
  refine cseq ?_
  refine creg ?_
  refine lbxa rfl (fun b1 => ?_)
  refine l1 (asgb rfl) ?_
  refine lnil ?_
  refine nthen ?_
  refine cseq ?_
  refine cseq ?_
  refine creg ?_
  refine l1 (fa fa79_0 rfl) ?_
  refine l1 (lda 0 Try.isAgg37 Try.sizeOf37 rfl rfl (encR_hd _) rfl) ?_
  refine l1 (cl hb76 rfl (mc rfl mn) (fun w hw => hformed_calls _ w (Sl.keptS hx.h hw) kx.h)) ?_
  refine l1 (nt rfl) ?_
  refine l1 (mvb rfl) ?_
  refine l1g rfl (gwf rfl) (fun h => fa fa79_0 rfl) ?_
  refine l1g rfl (gwf rfl) (fun h => fa fa37_4 (gvt h)) ?_
  refine l1g rfl (gwf rfl) (fun h => ldc 0 Try.isAgg4 rfl (gvt h) rfl) ?_
  refine l1 (pk_or rfl rfl rfl) ?_
  refine lnil ?_
  refine nthen ?_
  refine cif rfl (fun h1 => ?_) (fun h1 => ?_)
  · skip
    refine cseq ?_
    refine creg ?_
    refine l1 (asgb rfl) ?_
    refine lnil ?_
    refine nthen ?_
    refine cret ?_
    refine nthenR ?_
    exact fin1b rfl rfl (by first | rfl | (simp only [formedR, h1, cond_true, cond_false]; done))
  · skip
    refine cskip ?_
    refine nthen ?_
    refine cseq ?_
    refine cseq ?_
    refine creg ?_
    refine l1 (fa fa79_1 rfl) ?_
    refine l1 (ldc 0 Try.isAgg4 rfl rfl rfl) ?_
    refine lnil ?_
    refine nthen ?_
    refine cif rfl (fun h2 => ?_) (fun h2 => ?_)
    · skip
      refine cseq ?_
      refine creg ?_
      refine l1 (fa fa79_2 rfl) ?_
      refine l1 (lda 0 Try.isAgg77 Try.sizeOf77 rfl rfl (encR_ch _) rfl) ?_
      refine l1 (cl hb89 rfl (mc rfl mn) (fun w hw => fch_calls _ w (Sl.keptS hx.c hw) kx.c)) ?_
      refine l1 (asgb rfl) ?_
      refine lnil ?_
      refine nthen ?_
      refine cret ?_
      refine nthenR ?_
      exact fin1b rfl rfl (by first | rfl | (simp only [formedR, h1, h2, cond_true, cond_false]; done))
    · skip
      refine cskip ?_
      refine nthen ?_
      refine cseq ?_
      refine creg ?_
      refine l1 (fa fa79_2 rfl) ?_
      refine l1 (lda 0 Try.isAgg77 Try.sizeOf77 rfl rfl (encR_ch _) rfl) ?_
      refine l1 (cl hb90 rfl (mc rfl mn) (fun w hw => blank_calls _ w)) ?_
      refine l1 (asgb rfl) ?_
      refine lnil ?_
      refine nthen ?_
      refine cret ?_
      exact fin1b rfl rfl (by first | rfl | (simp only [formedR, h1, h2, cond_true, cond_false]; done))

def rtagBad (t : Nat → ByteArray) (i : Nat) : Bool := !nameB (t i) || (decide ((i : Int) > 0) && (Op.bytesLess (t i).toList (t (i - 1)).toList || (t i).toList == (t (i - 1)).toList))
theorem rtag_eq (t : Nat → ByteArray) (i : Nat) : rtagBad t i = tagBad t i := by unfold rtagBad tagBad; rw [bl_total]
def rchB (c : Ch) : Bool := (((((decide (c.op < 1) || decide (c.op > 3)) || !nameB c.name) || decide ((c.gn : Int) > 8)) || decide ((c.value.size : Int) > 512)) || (decide (c.op = 2) && decide ((c.gn : Int) > 0))) || (decide (c.op ≠ 1) && !emptyB c.value)
def rfchB (c : Ch) : Bool := bif rchB c then false else tagsB c.gn c.tag
theorem rfch_eq (c : Ch) : rfchB c = fchB c := by
  unfold rfchB rchB fchB
  generalize nameB c.name = a
  generalize tagsB c.gn c.tag = t
  generalize emptyB c.value = e
  generalize decide ((c.value.size : Int) > 512) = z
  have e8 : decide ((c.gn : Int) ≤ 8) = !decide ((c.gn : Int) > 8) := by
    rw [Bool.eq_iff_iff]; simp only [Bool.not_eq_true', decide_eq_true_eq, decide_eq_false_iff_not]; omega
  rw [e8]
  generalize decide ((c.gn : Int) > 8) = g8
  generalize decide ((c.gn : Int) > 0) = g0
  by_cases h1 : c.op = 1
  · simp [h1]; cases a <;> cases t <;> cases z <;> cases e <;> cases g8 <;> cases g0 <;> rfl
  by_cases h2 : c.op = 2
  · simp [h2]; cases a <;> cases t <;> cases z <;> cases e <;> cases g8 <;> cases g0 <;> rfl
  by_cases h3 : c.op = 3
  · simp [h3]; cases a <;> cases t <;> cases z <;> cases e <;> cases g8 <;> cases g0 <;> rfl
  · have : c.op < 1 ∨ c.op > 3 := by omega
    rcases this with h | h <;> simp [h, h1, h2, h3]

set_option maxHeartbeats 1000000 in
theorem rfch_calls (c : Ch) (w : World) (hc : ChIn w c) (kc : ChOk c) : Calls Try.prog 84 #[.agg (encCh c).toArray] w (Ret (.bool (rfchB c)) w) := by
  refine fn_calls (n := 83) Try.func84 rfl rfl (lb rfl) ?_
  have hn1 := kc.n
  refine cseq ?_
  refine creg ?_
  refine lbxa rfl (fun b1 => ?_)
  refine l1 (asgb rfl) ?_
  refine lnil ?_
  refine nthen ?_
  refine cseq ?_
  refine cseq ?_
  refine creg ?_
  refine l1 (fa fa77_0 rfl) ?_
  refine l1 (ldc 0 Try.isAgg3 rfl rfl rfl) ?_
  refine l1 (lss rfl rfl) ?_
  refine l1 (mvb rfl) ?_
  refine l1g rfl (gwf rfl) (fun h => fa fa77_0 rfl) ?_
  refine l1g rfl (gwf rfl) (fun h => ldc 0 Try.isAgg3 rfl (gvt h) rfl) ?_
  refine l1g rfl (gwf rfl) (fun h => gtr (gvt h) rfl) ?_
  refine l1 (pk_or rfl rfl rfl) ?_
  refine l1 (mvb rfl) ?_
  refine l1g rfl (gwf rfl) (fun h => fa fa77_1 rfl) ?_
  refine l1g rfl (gwf rfl) (fun h => ldc 0 Try.isAgg9 rfl (gvt h) rfl) ?_
  refine l1g rfl (gwf rfl) (fun h => cl hb113 rfl (mc (gvt h) mn) (fun w hw => rname_calls _ w)) ?_
  refine l1g rfl (gwf rfl) (fun h => nt (gvt h)) ?_
  refine l1 (pk_or rfl rfl rfl) ?_
  refine l1 (mvb rfl) ?_
  refine l1g rfl (gwf rfl) (fun h => fa fa77_2 rfl) ?_
  refine l1g rfl (gwf rfl) (fun h => ldc 0 Try.isAgg75 rfl (gvt h) rfl) ?_
  refine l1g rfl (gwf rfl) (fun h => lens sl75 rfl (gvt h)) ?_
  refine l1g rfl (gwf rfl) (fun h => gtr (gvt h) rfl) ?_
  refine l1 (pk_or rfl rfl rfl) ?_
  refine l1 (mvb rfl) ?_
  refine l1g rfl (gwf rfl) (fun h => fa fa77_3 rfl) ?_
  refine l1g rfl (gwf rfl) (fun h => ldc 0 Try.isAgg9 rfl (gvt h) rfl) ?_
  refine l1g rfl (gwf rfl) (fun h => lenstr Try.underlying9 rfl (gvt h)) ?_
  refine l1g rfl (gwf rfl) (fun h => gtr (gvt h) rfl) ?_
  refine l1 (pk_or rfl rfl rfl) ?_
  refine l1 (mvb rfl) ?_
  refine l1g rfl (gwf rfl) (fun h => fa fa77_0 rfl) ?_
  refine l1g rfl (gwf rfl) (fun h => ldc 0 Try.isAgg3 rfl (gvt h) rfl) ?_
  refine l1g rfl (gwf rfl) (fun h => eql (gvt h) rfl) ?_
  refine l1g rfl (gwf rfl) (fun h => mvb (gvt h)) ?_
  refine l1g rfl (ggt rfl) (fun h => fa fa77_2 rfl) ?_
  refine l1g rfl (ggt rfl) (fun h => ldc 0 Try.isAgg75 rfl (gvt h) rfl) ?_
  refine l1g rfl (ggt rfl) (fun h => lens sl75 rfl (gvt h)) ?_
  refine l1g rfl (ggt rfl) (fun h => gtr (gvt h) rfl) ?_
  refine l1g rfl (gwf rfl) (fun h => pk_and (gvt h) (gva h) rfl) ?_
  refine l1 (pk_or rfl rfl rfl) ?_
  refine l1 (mvb rfl) ?_
  refine l1g rfl (gwf rfl) (fun h => fa fa77_0 rfl) ?_
  refine l1g rfl (gwf rfl) (fun h => ldc 0 Try.isAgg3 rfl (gvt h) rfl) ?_
  refine l1g rfl (gwf rfl) (fun h => neq (gvt h) rfl) ?_
  refine l1g rfl (gwf rfl) (fun h => mvb (gvt h)) ?_
  refine l1g rfl (ggt rfl) (fun h => fa fa77_3 rfl) ?_
  refine l1g rfl (ggt rfl) (fun h => ldc 0 Try.isAgg9 rfl (gvt h) rfl) ?_
  refine l1g rfl (ggt rfl) (fun h => neqs (gvt h) rfl) ?_
  refine l1g rfl (gwf rfl) (fun h => pk_and (gvt h) (gva h) rfl) ?_
  refine l1 (pk_or rfl rfl rfl) ?_
  refine lnil ?_
  refine nthen ?_
  refine cif rfl (fun h1 => ?_) (fun h1 => ?_)
  · change rchB c = _ at h1
    refine cseq ?_
    refine creg ?_
    refine l1 (asgb rfl) ?_
    refine lnil ?_
    refine nthen ?_
    refine cret ?_
    refine nthenR ?_
    exact fin1b rfl rfl (by rw [rfchB, h1]; rfl)
  · change rchB c = _ at h1
    refine cskip ?_
    refine nthen ?_
    refine cseq ?_
    refine cseq ?_
    refine creg ?_
    refine l1 (asgi rfl) ?_
    refine lnil ?_
    refine nthen ?_
    refine cblock ?_
    refine cloopI (σ := Nat) (fun s => [(1, .pointer (some ⟨b1, 0, none⟩)), (3, .int .i64 (s : Int))]) (fun s => [⟨b1, encCh c, 77⟩]) (fun s => s ≤ c.gn ∧ ∀ j, j < s → tagBad c.tag j = false) (fun s => c.gn - s) 0 ⟨Nat.zero_le _, fun j hj => by omega⟩ ⟨rfl, rfl, trivial⟩ (List.Sublist.refl _) ?_
    rintro i j hI
    show WC _ _ _ ([⟨b1, encCh c, 77⟩]) _ _ (over j [(1, .pointer (some ⟨b1, 0, none⟩)), (3, .int .i64 (i : Int))])
    replace hI : i ≤ c.gn ∧ ∀ j, j < i → tagBad c.tag j = false := hI
    refine cseq ?_
    refine cseq ?_
    refine creg ?_
    refine l1 (mvi rfl) ?_
    refine l1 (fa fa77_2 rfl) ?_
    refine l1 (ldc 0 Try.isAgg75 rfl rfl rfl) ?_
    refine l1 (lens sl75 rfl rfl) ?_
    refine l1 (lss rfl rfl) ?_
    refine lnil ?_
    refine nthen ?_
    refine cif rfl (fun h2 => ?_) (fun h2 => ?_)
    · have hlt : i < c.gn := by (have := dt h2; omega)
      obtain ⟨b, o, hp, hbl, hm⟩ := hc.at hlt
      refine cskip ?_
      refine nthen ?_
      refine cseq ?_
      refine cblock ?_
      refine cseq ?_
      refine cregq mo (by kernel_rfl) ?_
      refine q1 (fa fa77_2 rfl) ?_
      refine q1 (ldc 0 Try.isAgg75 rfl rfl rfl) ?_
      refine q1 (mvi rfl) ?_
      refine q1 (isp sl75 hp rfl rfl (by omega) (by omega)) ?_
      refine q1 (ldm (v := .string (c.tag i)) Try.isAgg9 rfl (fun w' hw => ((hm i hlt).kept hw.below hbl).c0)) ?_
      refine q1 (cl hb113 rfl (mc rfl mn) (fun w hw => rname_calls _ w)) ?_
      refine q1 (nt rfl) ?_
      refine q1 (mvb rfl) ?_
      refine q1g rfl (gwf rfl) (fun h => mvi rfl) ?_
      refine q1g rfl (gwf rfl) (fun h => gtr (gvt h) rfl) ?_
      refine q1g rfl (gwf rfl) (fun h => mvb (gvt h)) ?_
      refine q1g rfl (ggt rfl) (fun h => fa fa77_2 rfl) ?_
      refine q1g rfl (ggt rfl) (fun h => ldc 0 Try.isAgg75 rfl (gvt h) rfl) ?_
      refine q1g rfl (ggt rfl) (fun h => mvi rfl) ?_
      refine q1g rfl (ggt rfl) (fun h => isp sl75 hp (gvt h) (gvt h) (by omega) (by omega)) ?_
      refine q1g rfl (ggt rfl) (fun h => ldm (v := .string (c.tag i)) Try.isAgg9 (gvt h) (fun w' hw => ((hm i hlt).kept hw.below hbl).c0)) ?_
      refine q1g rfl (ggt rfl) (fun h => fa fa77_2 rfl) ?_
      refine q1g rfl (ggt rfl) (fun h => ldc 0 Try.isAgg75 rfl (gvt h) rfl) ?_
      refine q1g rfl (ggt rfl) (fun h => mvi rfl) ?_
      refine q1g rfl (ggt rfl) (fun h => subn (gvt h) rfl (ri (by omega) (by omega))) ?_
      refine q1g rfl (ggt rfl) (fun h => isp sl75 hp (gvt h) (gvt h) (by simp at h; omega) (by omega)) ?_
      refine q1g rfl (ggt rfl) (fun h => ldm (v := .string (c.tag (i - 1))) Try.isAgg9 (gvt h) (fun w' hw => by rw [show ((i : Int) - 1).toNat = i - 1 from by omega]; exact ((hm (i - 1) (by omega)).kept hw.below hbl).c0)) ?_
      refine q1g rfl (ggt rfl) (fun h => leqs (gvt h) (gvt h)) ?_
      refine q1g rfl (gwf rfl) (fun h => pk_and (gvt h) (gva h) rfl) ?_
      refine q1 (pk_or rfl rfl rfl) ?_
      refine qnil ?_
      refine nthen ?_
      refine cif rfl (fun h3 => ?_) (fun h3 => ?_)
      · change rtagBad c.tag i = _ at h3
        rw [rtag_eq] at h3
        refine cseq ?_
        refine creg ?_
        refine l1 (asgb rfl) ?_
        refine lnil ?_
        refine nthen ?_
        refine cret ?_
        refine nblkR ?_
        refine nthenR ?_
        refine nIR ?_
        refine nblkR ?_
        refine nthenR ?_
        exact fin1b rfl rfl (by rw [rfchB, h1, tags_bad hlt h3]; rfl)
      · change rtagBad c.tag i = _ at h3
        rw [rtag_eq] at h3
        refine cskip ?_
        refine nblkN ?_
        refine nthen ?_
        refine creg ?_
        refine l1 (mvi rfl) ?_
        first | refine l1 (addn rfl rfl (ri (by omega) (by omega))) ?_ | refine l1 (add rfl rfl) ?_
        refine l1 (asgi rfl) ?_
        refine lnil ?_
        exact nI (i + 1) ⟨by omega, fun j hj => (Nat.lt_succ_iff_lt_or_eq.1 hj).elim (fun h => hI.2 j h) (fun h => by subst h; exact h3)⟩ (by show c.gn - (i + 1) < c.gn - i; omega) ⟨rfl, rfl, trivial⟩ (List.Sublist.refl _)
    · skip
      refine cexit ?_
      refine nthenE ?_
      refine nIE ?_
      refine nblkE ?_
      refine nthen ?_
      refine cseq ?_
      refine creg ?_
      refine l1 (asgb rfl) ?_
      refine lnil ?_
      refine nthen ?_
      refine cret ?_
      exact fin1b rfl rfl (by rw [rfchB, h1, tags_good (fun j hj => hI.2 j (by have := df h2; omega))]; rfl)

def sameCh (a b : Ch) : Bool := bif decide ((a.gn : Int) ≠ (b.gn : Int)) then false else bif (List.range a.gn).any (fun i => !((a.tag i).toList == (b.tag i).toList)) then false else ((decide (a.op = b.op) && (a.name.toList == b.name.toList)) && (a.value.toList == b.value.toList))
theorem sameCh_no {a b : Ch} {i : Nat} (h : decide ((a.gn : Int) ≠ (b.gn : Int)) = false) (hi : i < a.gn) (hne : (!((a.tag i).toList == (b.tag i).toList)) = true) : sameCh a b = false := by
  unfold sameCh
  rw [h, List.any_eq_true.2 ⟨i, List.mem_range.2 hi, hne⟩]; rfl
theorem sameCh_yes {a b : Ch} (h : decide ((a.gn : Int) ≠ (b.gn : Int)) = false) (hall : ∀ i, i < a.gn → (!((a.tag i).toList == (b.tag i).toList)) = false) : sameCh a b = ((decide (a.op = b.op) && (a.name.toList == b.name.toList)) && (a.value.toList == b.value.toList)) := by
  unfold sameCh
  have : (List.range a.gn).any (fun i => !((a.tag i).toList == (b.tag i).toList)) = false := by
    rw [List.any_eq_false]
    intro i hi
    rw [hall i (List.mem_range.1 hi)]; simp
  rw [h, this]; rfl
def chz : Ch := ⟨0, ByteArray.empty, none, 0, 0, fun _ => ByteArray.empty, ByteArray.empty⟩
theorem bk77z : ∀ w, (Instr.build 77 #[]).run Try.prog w = .ok (.agg (encCh chz).toArray) w := fun w => by kernel_rfl
theorem chzIn (w : World) : ChIn w chz := ⟨.inl rfl⟩
theorem chz_same (c : Ch) : sameCh c chz = blankB c := by
  unfold sameCh blankB
  by_cases h : c.gn = 0
  · simp only [h, chz]
    simp [emptyB]
    rfl
  · have : decide ((c.gn : Int) ≠ (chz.gn : Int)) = true := by simp [chz]; omega
    rw [this]
    have h2 : decide ((c.gn : Int) = 0) = false := by simp; omega
    rw [h2]; simp
def rformedR (r : Rw) : Bool := bif !rformedH r.hd || r.hd.control then false else bif r.known then rfchB r.ch else sameCh r.ch chz
theorem rformedR_eq {r : Rw} (k : RwOk r) : rformedR r = formedR r := by
  unfold rformedR formedR
  rw [rformed_eq k.h.z, rfch_eq, chz_same]

set_option maxHeartbeats 1000000 in
theorem sameCh_calls (a b : Ch) (w : World) (ha : ChIn w a) (hb : ChIn w b) (hn1 : (a.gn : Int) ≤ 9223372036854775807) : Calls Try.prog 85 #[.agg (encCh a).toArray, .agg (encCh b).toArray] w (Ret (.bool (sameCh a b)) w) := by
  refine fn_calls (n := 50) Try.func85 rfl rfl (lb rfl) ?_
  refine cseq ?_
  refine creg ?_
  refine lbxa rfl (fun b1 => ?_)
  refine lbxa rfl (fun b2 => ?_)
  refine l1 (asgb rfl) ?_
  refine lnil ?_
  refine nthen ?_
  refine cseq ?_
  refine cseq ?_
  refine creg ?_
  refine l1 (fa fa77_2 rfl) ?_
  refine l1 (ldc 0 Try.isAgg75 rfl rfl rfl) ?_
  refine l1 (lens sl75 rfl rfl) ?_
  refine l1 (fa fa77_2 rfl) ?_
  refine l1 (ldc 1 Try.isAgg75 rfl rfl rfl) ?_
  refine l1 (lens sl75 rfl rfl) ?_
  refine l1 (neq rfl rfl) ?_
  refine lnil ?_
  refine nthen ?_
  refine cif rfl (fun h1 => ?_) (fun h1 => ?_)
  · skip
    refine cseq ?_
    refine creg ?_
    refine l1 (asgb rfl) ?_
    refine lnil ?_
    refine nthen ?_
    refine cret ?_
    refine nthenR ?_
    exact fin1b rfl rfl (by rw [sameCh, h1]; rfl)
  · have hgn := df2 h1
    refine cskip ?_
    refine nthen ?_
    refine cseq ?_
    refine cseq ?_
    refine creg ?_
    refine l1 (asgi rfl) ?_
    refine lnil ?_
    refine nthen ?_
    refine cblock ?_
    refine cloopI (σ := Nat) (fun s => [(2, .pointer (some ⟨b1, 0, none⟩)), (3, .pointer (some ⟨b2, 0, none⟩)), (5, .int .i64 (s : Int))]) (fun s => [⟨b1, encCh a, 77⟩, ⟨b2, encCh b, 77⟩]) (fun s => s ≤ a.gn ∧ ∀ j, j < s → (!((a.tag j).toList == (b.tag j).toList)) = false) (fun s => a.gn - s) 0 ⟨Nat.zero_le _, fun j hj => by omega⟩ ⟨rfl, rfl, rfl, trivial⟩ (List.Sublist.refl _) ?_
    rintro i j hI
    show WC _ _ _ ([⟨b1, encCh a, 77⟩, ⟨b2, encCh b, 77⟩]) _ _ (over j [(2, .pointer (some ⟨b1, 0, none⟩)), (3, .pointer (some ⟨b2, 0, none⟩)), (5, .int .i64 (i : Int))])
    replace hI : i ≤ a.gn ∧ ∀ j, j < i → (!((a.tag j).toList == (b.tag j).toList)) = false := hI
    refine cseq ?_
    refine cseq ?_
    refine creg ?_
    refine l1 (mvi rfl) ?_
    refine l1 (fa fa77_2 rfl) ?_
    refine l1 (ldc 0 Try.isAgg75 rfl rfl rfl) ?_
    refine l1 (lens sl75 rfl rfl) ?_
    refine l1 (lss rfl rfl) ?_
    refine lnil ?_
    refine nthen ?_
    refine cif rfl (fun h2 => ?_) (fun h2 => ?_)
    · have hlt : i < a.gn := by (have := dt h2; omega)
      obtain ⟨bq, o, hp, hbl, hm⟩ := ha.at hlt
      obtain ⟨bq2, o2, hp2, hbl2, hm2⟩ := hb.at (i := i) (by omega)
      refine cskip ?_
      refine nthen ?_
      refine cseq ?_
      refine cblock ?_
      refine cseq ?_
      refine cregq mo (by kernel_rfl) ?_
      refine q1 (fa fa77_2 rfl) ?_
      refine q1 (ldc 0 Try.isAgg75 rfl rfl rfl) ?_
      refine q1 (mvi rfl) ?_
      refine q1 (isp sl75 hp rfl rfl (by omega) (by omega)) ?_
      refine q1 (ldm (v := .string (a.tag i)) Try.isAgg9 rfl (fun w' hw => ((hm i hlt).kept hw.below hbl).c0)) ?_
      refine q1 (fa fa77_2 rfl) ?_
      refine q1 (ldc 1 Try.isAgg75 rfl rfl rfl) ?_
      refine q1 (mvi rfl) ?_
      refine q1 (isp sl75 hp2 rfl rfl (by omega) (by omega)) ?_
      refine q1 (ldm (v := .string (b.tag i)) Try.isAgg9 rfl (fun w' hw => ((hm2 i (by omega)).kept hw.below hbl2).c0)) ?_
      refine q1 (neqs rfl rfl) ?_
      refine qnil ?_
      refine nthen ?_
      refine cif rfl (fun h3 => ?_) (fun h3 => ?_)
      · skip
        refine cseq ?_
        refine creg ?_
        refine l1 (asgb rfl) ?_
        refine lnil ?_
        refine nthen ?_
        refine cret ?_
        refine nblkR ?_
        refine nthenR ?_
        refine nIR ?_
        refine nblkR ?_
        refine nthenR ?_
        exact fin1b rfl rfl ((sameCh_no h1 hlt h3).symm)
      · skip
        refine cskip ?_
        refine nblkN ?_
        refine nthen ?_
        refine creg ?_
        refine l1 (mvi rfl) ?_
        first | refine l1 (addn rfl rfl (ri (by omega) (by omega))) ?_ | refine l1 (add rfl rfl) ?_
        refine l1 (asgi rfl) ?_
        refine lnil ?_
        exact nI (i + 1) ⟨by omega, fun j hj => (Nat.lt_succ_iff_lt_or_eq.1 hj).elim (fun h => hI.2 j h) (fun h => by subst h; exact h3)⟩ (by show a.gn - (i + 1) < a.gn - i; omega) ⟨rfl, rfl, rfl, trivial⟩ (List.Sublist.refl _)
    · skip
      refine cexit ?_
      refine nthenE ?_
      refine nIE ?_
      refine nblkE ?_
      refine nthen ?_
      refine cseq ?_
      refine creg ?_
      refine l1 (fa fa77_0 rfl) ?_
      refine l1 (ldc 0 Try.isAgg3 rfl rfl rfl) ?_
      refine l1 (fa fa77_0 rfl) ?_
      refine l1 (ldc 1 Try.isAgg3 rfl rfl rfl) ?_
      refine l1 (eql rfl rfl) ?_
      refine l1 (mvb rfl) ?_
      refine l1g rfl (gwt rfl) (fun h => fa fa77_1 rfl) ?_
      refine l1g rfl (gwt rfl) (fun h => ldc 0 Try.isAgg9 rfl (gvt h) rfl) ?_
      refine l1g rfl (gwt rfl) (fun h => fa fa77_1 rfl) ?_
      refine l1g rfl (gwt rfl) (fun h => ldc 1 Try.isAgg9 rfl (gvt h) rfl) ?_
      refine l1g rfl (gwt rfl) (fun h => eqls (gvt h) (gvt h)) ?_
      refine l1 (pk_and rfl rfl rfl) ?_
      refine l1 (mvb rfl) ?_
      refine l1g rfl (gwt rfl) (fun h => fa fa77_3 rfl) ?_
      refine l1g rfl (gwt rfl) (fun h => ldc 0 Try.isAgg9 rfl (gvt h) rfl) ?_
      refine l1g rfl (gwt rfl) (fun h => fa fa77_3 rfl) ?_
      refine l1g rfl (gwt rfl) (fun h => ldc 1 Try.isAgg9 rfl (gvt h) rfl) ?_
      refine l1g rfl (gwt rfl) (fun h => eqls (gvt h) (gvt h)) ?_
      refine l1 (pk_and rfl rfl rfl) ?_
      refine l1 (asgb rfl) ?_
      refine lnil ?_
      refine nthen ?_
      refine cret ?_
      exact fin1b rfl rfl ((sameCh_yes h1 (fun j hj => hI.2 j (by have := df h2; omega))).symm)

theorem rrowformed_calls (x : Rw) (w : World) (hx : RwIn w x) (kx : RwOk x) : Calls Try.prog 49 #[.agg (encR x).toArray] w (Ret (.bool (rformedR x)) w) := by
  refine fn_calls (n := 21) Try.func49 rfl rfl (lb rfl) ?_
  refine cseq ?_
  refine creg ?_
  refine lbxa rfl (fun b1 => ?_)
  refine l1 (asgb rfl) ?_
  refine lnil ?_
  refine nthen ?_
  refine cseq ?_
  refine cseq ?_
  refine creg ?_
  refine l1 (fa fa79_0 rfl) ?_
  refine l1 (lda 0 Try.isAgg37 Try.sizeOf37 rfl rfl (encR_hd _) rfl) ?_
  refine l1 (cl hb77 rfl (mc rfl mn) (fun w hw => rformed_calls _ w (Sl.keptS hx.h hw) kx.h)) ?_
  refine l1 (nt rfl) ?_
  refine l1 (mvb rfl) ?_
  refine l1g rfl (gwf rfl) (fun h => fa fa79_0 rfl) ?_
  refine l1g rfl (gwf rfl) (fun h => fa fa37_4 (gvt h)) ?_
  refine l1g rfl (gwf rfl) (fun h => ldc 0 Try.isAgg4 rfl (gvt h) rfl) ?_
  refine l1 (pk_or rfl rfl rfl) ?_
  refine lnil ?_
  refine nthen ?_
  refine cif rfl (fun h1 => ?_) (fun h1 => ?_)
  · skip
    refine cseq ?_
    refine creg ?_
    refine l1 (asgb rfl) ?_
    refine lnil ?_
    refine nthen ?_
    refine cret ?_
    refine nthenR ?_
    exact fin1b rfl rfl (by first | rfl | (simp only [rformedR, h1, cond_true, cond_false]; done))
  · skip
    refine cskip ?_
    refine nthen ?_
    refine cseq ?_
    refine cseq ?_
    refine creg ?_
    refine l1 (fa fa79_1 rfl) ?_
    refine l1 (ldc 0 Try.isAgg4 rfl rfl rfl) ?_
    refine lnil ?_
    refine nthen ?_
    refine cif rfl (fun h2 => ?_) (fun h2 => ?_)
    · skip
      refine cseq ?_
      refine creg ?_
      refine l1 (fa fa79_2 rfl) ?_
      refine l1 (lda 0 Try.isAgg77 Try.sizeOf77 rfl rfl (encR_ch _) rfl) ?_
      refine l1 (cl hb84 rfl (mc rfl mn) (fun w hw => rfch_calls _ w (Sl.keptS hx.c hw) kx.c)) ?_
      refine l1 (asgb rfl) ?_
      refine lnil ?_
      refine nthen ?_
      refine cret ?_
      refine nthenR ?_
      exact fin1b rfl rfl (by first | rfl | (simp only [rformedR, h1, h2, cond_true, cond_false]; done))
    · skip
      refine cskip ?_
      refine nthen ?_
      refine cseq ?_
      refine creg ?_
      refine l1 (fa fa79_2 rfl) ?_
      refine l1 (lda 0 Try.isAgg77 Try.sizeOf77 rfl rfl (encR_ch _) rfl) ?_
      refine l1 (bld0 bk77z) ?_
      refine l1 (cl hb85 rfl (mc rfl (mc rfl mn)) (fun w hw => sameCh_calls _ _ w (Sl.keptS hx.c hw) (chzIn w) kx.c.n)) ?_
      refine l1 (asgb rfl) ?_
      refine lnil ?_
      refine nthen ?_
      refine cret ?_
      exact fin1b rfl rfl (by first | rfl | (simp only [rformedR, h1, h2, cond_true, cond_false]; done))
end Go.Proofs.Ytkdbjhlkahkobaa
/- what came, and how much more there is: plain laws; rows in blocks of our own, read -/
namespace Go.Proofs.Ytkdbjhlkahkobaa
open Jal Go.RowKit
set_option maxRecDepth 100000
theorem SlIn_some {H : List Ent} {p : Option Addr} {n sz : Nat} {el : Nat → List Value} (h : SlIn H p n sz el) {i : Nat} (hi : i < n) : ∃ b, p = some ⟨b, 0, none⟩ := by
  rcases h with h | ⟨e, _, h, _⟩
  · omega
  · exact ⟨e.b, h⟩
theorem SlIn_mem {w0 w : World} {H : List Ent} {p : Option Addr} {n sz : Nat} {el : Nat → List Value} {b : Nat} (h : SlIn H p n sz el) (hp : p = some ⟨b, 0, none⟩) (hw : Sat w0 H w) {i : Nat} (hi : i < n) : Mem w ⟨b, 0 + i * sz, none⟩ (el i) := by
  rcases h with h | ⟨e, he, h1, h2⟩
  · omega
  · rw [hp] at h1
    simp only [Option.some.injEq, Addr.mk.injEq, and_true] at h1
    intro j v hv
    rw [Addr.add_off]
    simp only [World.cell?, h1, (hw.own e he).2]
    have := h2 i hi j v hv
    simpa [Nat.zero_add] using this
theorem ord_slIn {hs : List Hd} {v0 : Vec} {v : Vec} {O : List Hd} {p : Option Addr} {c : Nat} {oe tl : List Ent} (h : OrdOk hs v0 ⟨v, O, .slice p O.length c, oe, tl⟩) : SlIn oe p O.length 125 (fun i => encH (O.getD i hz)) :=
  h.own.slInL (fun a => rfl) (fun i hi => ⟨_, List.getElem?_eq_getElem hi, by rw [List.getD_eq_getElem?_getD, List.getElem?_eq_getElem hi]; rfl⟩)
theorem getD_get {O : List Hd} {i : Nat} (h : i < O.length) : O[i]? = some (O.getD i hz) := by
  rw [List.getD_eq_getElem?_getD, List.getElem?_eq_getElem h]; rfl
theorem getD_mem {O : List Hd} {i : Nat} (h : i < O.length) : O.getD i hz ∈ O := List.mem_of_getElem? (getD_get h)
theorem runV_take {v : Vec} {O : List Hd} {i : Nat} (h : i < O.length) : runV v (O.take (i + 1)) = putV (runV v (O.take i)) (O.getD i hz) := by
  rw [List.take_add_one, getD_get h]
  exact runV_snoc v _ _
theorem more_small {a b : Int} (h : 0 ≤ b - a) (h' : b - a ≤ 1000) : moreI a b = b - a := by
  unfold moreI
  by_cases hc : b > a
  · rw [decide_eq_true hc, ru (by omega) (by omega)]; simp only [cond_true]; omega
  · rw [decide_eq_false hc]; simp only [cond_false]; omega
def isum : Nat → (Nat → Int) → Int
  | 0, _ => 0
  | n + 1, f => isum n f + f n
theorem sumV_small (f : Nat → Int) : ∀ n, n ≤ 6 → (∀ i, i < n → 0 ≤ f i ∧ f i ≤ 1000) → sumV n f = isum n f ∧ 0 ≤ isum n f ∧ isum n f ≤ (n : Int) * 1000
  | 0, _, _ => ⟨rfl, by simp [isum], by simp [isum]⟩
  | n + 1, hn, h => by
    obtain ⟨h1, h2, h3⟩ := sumV_small f n (by omega) (fun i hi => h i (by omega))
    have h4 := h n (by omega)
    show addU (sumV n f) (f n) = isum n f + f n ∧ 0 ≤ isum n f + f n ∧ isum n f + f n ≤ _
    rw [h1, addU_small (by omega) (by omega)]
    exact ⟨rfl, by omega, by omega⟩
theorem isum_congr {f g : Nat → Int} : ∀ n, (∀ i, i < n → f i = g i) → isum n f = isum n g
  | 0, _ => rfl
  | n + 1, h => by
    show isum n f + f n = isum n g + g n
    rw [isum_congr n (fun i hi => h i (by omega)), h n (by omega)]
theorem path_grow {hs : List Hd} {v0 v : Vec} {O : List Hd} (h : Path hs v0 O v) : (∀ i, i < 6 → 0 ≤ v i - v0 i ∧ v i - v0 i ≤ O.length) ∧ isum 6 (fun i => v i - v0 i) = O.length := by
  induction h with
  | nil => refine ⟨fun i _ => ⟨by omega, by simp⟩, ?_⟩; simp [isum]
  | snoc hP hp hc ih =>
    rename_i O1 v' h1 o1
    obtain ⟨ih1, ih2⟩ := ih
    obtain ⟨_, hr, _⟩ := pick_spec hp
    obtain ⟨hf, hv⟩ := ready_formed hr
    have hw := formed_w hf
    rw [List.length_append]
    simp only [List.length_cons, List.length_nil]
    have hk6 : (h1.writer - 1).toNat < 6 := by omega
    have hput : ∀ i, putV v' h1 i = bif Nat.beq i (h1.writer - 1).toNat then h1.seq else v' i := fun i => rfl
    generalize (h1.writer - 1).toNat = k at *
    have g0 := ih1 0 (by omega)
    have g1 := ih1 1 (by omega)
    have g2 := ih1 2 (by omega)
    have g3 := ih1 3 (by omega)
    have g4 := ih1 4 (by omega)
    have g5 := ih1 5 (by omega)
    simp only [isum] at ih2 ⊢
    constructor
    · intro i hi
      rw [hput]
      have hi6 := ih1 i hi
      cases hb : Nat.beq i k with
      | false => simp only [cond_false]; omega
      | true =>
        have := Nat.eq_of_beq_eq_true hb
        subst this
        simp only [cond_true]; omega
    · rw [hput 0, hput 1, hput 2, hput 3, hput 4, hput 5]
      rcases six hk6 with rfl | rfl | rfl | rfl | rfl | rfl <;> simp only [Nat.beq, cond_true, cond_false] <;> omega
theorem path_great {hs : List Hd} {v0 v : Vec} {O : List Hd} (h : Path hs v0 O v) : greatV v v0 = true := great_iff.2 fun i hi => by have := (path_grow h).1 i hi; omega
theorem path_miss {hs : List Hd} {v0 v : Vec} {O : List Hd} (h : Path hs v0 O v) (hl : O.length ≤ 1000) : missV v0 v = O.length := by
  obtain ⟨h1, h2⟩ := path_grow h
  have h3 : ∀ i, i < 6 → eachV moreI v0 v i = v i - v0 i := fun i hi => more_small (h1 i hi).1 (by have := (h1 i hi).2; omega)
  unfold missV
  rw [(sumV_small _ 6 (by omega) (fun i hi => by rw [h3 i hi]; have := h1 i hi; omega)).1, isum_congr 6 h3, h2]
end Go.Proofs.Ytkdbjhlkahkobaa
/- headers turned round: plain laws -/
namespace Go.Proofs.Ytkdbjhlkahkobaa
open Jal Go.RowKit
set_option maxRecDepth 100000
theorem flat_set {α : Type} {f : α → List Value} {sz : Nat} (hf : ∀ a, (f a).length = sz) : ∀ (P : List α) (i : Nat) (x : α), i < P.length → (P.set i x).flatMap f = (P.flatMap f).take (i * sz) ++ f x ++ (P.flatMap f).drop (i * sz + sz)
  | [], _, _, h => by simp at h
  | a :: P, 0, x, _ => by
    have h1 : List.drop (0 * sz + sz) (f a ++ List.flatMap f P) = List.flatMap f P := by
      rw [Nat.zero_mul, Nat.zero_add, ← hf a]; exact List.drop_left
    rw [List.set_cons_zero, List.flatMap_cons, List.flatMap_cons, h1]
    simp
  | a :: P, i + 1, x, h => by
    have ih := flat_set hf P i x (by simpa using h)
    rw [List.set_cons_succ, List.flatMap_cons, List.flatMap_cons, ih]
    have h1 : List.take ((i + 1) * sz) (f a ++ List.flatMap f P) = f a ++ List.take (i * sz) (List.flatMap f P) := by
      rw [List.take_append, hf a, List.take_of_length_le (by rw [hf a, Nat.add_mul]; omega)]
      congr 2
      rw [Nat.add_mul]; omega
    have h2 : List.drop ((i + 1) * sz + sz) (f a ++ List.flatMap f P) = List.drop (i * sz + sz) (List.flatMap f P) := by
      rw [List.drop_append, hf a, List.drop_eq_nil_of_le (by rw [hf a, Nat.add_mul]; omega)]
      rw [List.nil_append]
      congr 1
      rw [Nat.add_mul]; omega
    rw [h1, h2]
    simp
theorem ownL_set {α : Type} {f : α → List Value} {e : TypeId} {sz : Nat} {g cap n : Nat} {cur : List Value} {P : List α} (hf : ∀ a, (f a).length = sz) (h : OwnL e sz (.slice (some ⟨g, 0, none⟩) n cap) n (P.flatMap f) [⟨g, cur, e⟩]) (hP : P.length = n) {i : Nat} (hi : i < n) (x : α) :
    OwnL e sz (.slice (some ⟨g, 0, none⟩) n cap) n ((P.set i x).flatMap f) [⟨g, cur.take (i * sz) ++ f x ++ cur.drop (i * sz + sz), e⟩] := by
  rcases h.2 with ⟨h1, _⟩ | ⟨g', cap', cur', h1, h2, h3, h4, h5, h6⟩
  · cases h1
  · cases h1; cases h2
    have hb : i * sz + sz ≤ n * sz := by have := Nat.mul_le_mul_right sz (show i + 1 ≤ n from hi); rwa [Nat.add_mul, Nat.one_mul] at this
    have hc : n * sz ≤ cap * sz := Nat.mul_le_mul_right sz h3
    refine ⟨by rw [flatM_len hf, List.length_set, hP], .inr ⟨g, cap, _, rfl, rfl, h3, h4, ?_, ?_⟩⟩
    · simp only [List.length_append, List.length_take, List.length_drop, hf, h5]; omega
    · rw [flat_set hf P i x (by omega), ← h6]
      rw [List.append_assoc, List.append_assoc, List.take_append, List.take_append, List.length_take, hf, List.take_take, List.take_take]
      have e1 : min (n * sz) (i * sz) = i * sz := by omega
      have e2 : min (i * sz) (n * sz) = i * sz := by omega
      have e3 : min (i * sz) cur.length = i * sz := by omega
      rw [e1, e2, e3, List.take_of_length_le (l := f x) (by rw [hf]; omega), List.drop_take]
      congr 3
      omega
theorem ownL_form {α : Type} {f : α → List Value} {e : TypeId} {sz n : Nat} {p : Option Addr} {c : Nat} {P : List α} {oe : List Ent} (h : OwnL e sz (.slice p n c) n (P.flatMap f) oe) (hn : 0 < n) : ∃ g cur, p = some ⟨g, 0, none⟩ ∧ oe = [⟨g, cur, e⟩] ∧ n * sz ≤ cur.length := by
  rcases h.2 with ⟨_, h0, _⟩ | ⟨g, cap, cur, h1, h2, h3, h4, h5, h6⟩
  · omega
  · cases h1
    exact ⟨g, cur, rfl, h2, by rw [h5]; exact Nat.mul_le_mul_right sz h3⟩
theorem swap_perm {α : Type} (d : α) : ∀ (P : List α) (i : Nat), i + 1 < P.length → ((P.set i (P.getD (i + 1) d)).set (i + 1) (P.getD i d)).Perm P
  | [], _, h => by simp at h
  | [a], _, h => by simp at h
  | a :: b :: t, 0, _ => by simpa using List.Perm.swap a b t
  | a :: b :: t, i + 1, h => by
    have ih := swap_perm d (b :: t) i (by simpa using h)
    simpa using List.Perm.cons a ih
theorem turn_perm (n a : Nat) : ((List.range n).map (fun i => (i + a) % n)).Perm (List.range n) := by
  have e : (List.range n).map (fun i => (i + a) % n) = (List.range n).drop (a % n) ++ (List.range n).take (a % n) := by
    apply List.ext_getElem?
    intro i
    rcases Nat.eq_zero_or_pos n with h0 | h0
    · subst h0; simp
    have hm : a % n < n := Nat.mod_lt _ h0
    have hma : (i + a) % n = (i + a % n) % n := by rw [Nat.add_mod, Nat.add_mod i (a % n), Nat.mod_mod]
    rw [List.getElem?_map, List.getElem?_append]
    simp only [List.length_drop, List.length_range, List.getElem?_drop, List.getElem?_take]
    by_cases hi : i < n
    · rw [List.getElem?_range hi]
      by_cases h1 : i < n - a % n
      · rw [if_pos h1, List.getElem?_range (by omega)]
        simp only [Option.map_some, hma]
        rw [Nat.mod_eq_of_lt (by omega), Nat.add_comm]
      · rw [if_neg h1, if_pos (by omega), List.getElem?_range (by omega)]
        simp only [Option.map_some, hma]
        have : (i + a % n) % n = i + a % n - n := by rw [Nat.mod_eq_sub_mod (by omega), Nat.mod_eq_of_lt (by omega)]
        rw [this]; congr 1; omega
    · rw [List.getElem?_eq_none (by simpa using hi)]
      rw [if_neg (by omega)]
      split
      · rw [List.getElem?_eq_none (by simp; omega)]; rfl
      · rfl
  rw [e]
  have := List.perm_append_comm (l₁ := (List.range n).drop (a % n)) (l₂ := (List.range n).take (a % n))
  rwa [List.take_append_drop] at this
def Uniq (hs : List Hd) : Prop := ∀ x ∈ hs, ∀ y ∈ hs, x.writer = y.writer → x.seq = y.seq → x = y
theorem uniq_of {n : Nat} {l : Nat → Hd} (h : ∀ a, a < n → ∀ b, b < a → ¬ ((l a).writer = (l b).writer ∧ (l a).seq = (l b).seq)) : Uniq ((List.range n).map l) := by
  intro x hx y hy h1 h2
  obtain ⟨a, ha, rfl⟩ := List.mem_map.1 hx
  obtain ⟨b, hb, rfl⟩ := List.mem_map.1 hy
  have ha := List.mem_range.1 ha
  have hb := List.mem_range.1 hb
  rcases Nat.lt_trichotomy a b with hab | hab | hab
  · exact absurd ⟨h1.symm, h2.symm⟩ (h b hb a hab)
  · rw [hab]
  · exact absurd ⟨h1, h2⟩ (h a ha b hab)
theorem pick_perm {hs P : List Hd} (hp : P.Perm hs) (hu : Uniq hs) (v : Vec) : pick hs v = pick P v := by
  have hfp := hp.filter (readyH v)
  cases h1 : pick hs v with
  | none =>
    have := pick_none.1 h1
    rw [this] at hfp
    exact (pick_none.2 hfp.eq_nil).symm
  | some h =>
    cases h2 : pick P v with
    | none =>
      have := pick_none.1 h2
      rw [this] at hfp
      have h3 := pick_none.2 (List.Perm.eq_nil hfp.symm)
      rw [h3] at h1; cases h1
    | some h' =>
      obtain ⟨a1, a2, a3⟩ := pick_spec h1
      obtain ⟨b1, b2, b3⟩ := pick_spec h2
      have c1 := a3 h' (hp.mem_iff.1 b1) b2
      have c2 := b3 h (hp.mem_iff.2 a1) a2
      rw [first_iff] at c1 c2
      have hw : h.writer = h'.writer := by omega
      have hv := (ready_formed a2).2
      have hv' := (ready_formed b2).2
      rw [hw, hv'] at hv
      rw [hu h a1 h' (hp.mem_iff.1 b1) hw (by omega)]
theorem map_getD (P : List Hd) : (List.range P.length).map (fun i => P.getD i hz) = P := by
  apply List.ext_getElem?
  intro i
  rw [List.getElem?_map]
  by_cases hi : i < P.length
  · rw [List.getElem?_range hi, getD_get hi]; rfl
  · rw [List.getElem?_eq_none (by simpa using hi), List.getElem?_eq_none (by omega)]; rfl
end Go.Proofs.Ytkdbjhlkahkobaa
/- rows: the latest of some; rows in a block; items -/
/- rows: the latest of some: plain laws -/
namespace Go.Proofs.Ytkdbjhlkahkobaa
open Jal Go.RowKit
set_option maxRecDepth 100000
def rz : Rw := ⟨hz, false, ⟨0, ByteArray.empty, none, 0, 0, fun _ => ByteArray.empty, ByteArray.empty⟩⟩
def rowsL {α : Type} (l : Nat → α) (n : Nat) : List α := (List.range n).map l
theorem rowsL_len {α : Type} (l : Nat → α) (n : Nat) : (rowsL l n).length = n := by simp [rowsL]
theorem rowsL_get {α : Type} {l : Nat → α} {n i : Nat} (h : i < n) : (rowsL l n)[i]? = some (l i) := by simp [rowsL, h]
theorem rowsL_flat {α : Type} (f : α → List Value) (l : Nat → α) (n : Nat) : (rowsL l n).flatMap f = (List.range n).flatMap (fun i => f (l i)) := by
  unfold rowsL; rw [List.flatMap_map]
theorem el74 : ElT Try.prog 74 79 130 304 := by
  obtain ⟨i, h1, h2, h3, h4⟩ := info_parts (P := Try.prog) (e := 79) (z := .agg (encR rz).toArray) (size := 130) (bytes := 304) (by kernel_rfl)
  exact ⟨i, _, Try.underlying74, h1, h2, h3, h4, rfl, by decide⟩
theorem el75 : ElT Try.prog 75 9 1 16 := by
  obtain ⟨i, h1, h2, h3, h4⟩ := info_parts (P := Try.prog) (e := 9) (z := .string ByteArray.empty) (size := 1) (bytes := 16) (by kernel_rfl)
  exact ⟨i, _, Try.underlying75, h1, h2, h3, h4, rfl, by decide⟩
theorem bs74z : ∀ w : World, (Instr.buildSlice 74 0 #[]).run Try.prog w = .ok (.slice (some ⟨w.heap.size, 0, none⟩) 0 0) (w.alloc (.cells [].toArray 79)) := fun w => by kernel_rfl
theorem bs75z : ∀ w : World, (Instr.buildSlice 75 0 #[]).run Try.prog w = .ok (.slice (some ⟨w.heap.size, 0, none⟩) 0 0) (w.alloc (.cells [].toArray 9)) := fun w => by kernel_rfl
theorem bs74 (x : Rw) : ∀ w : World, (Instr.buildSlice 74 1 #[(0, .agg (encR x).toArray)]).run Try.prog w = .ok (.slice (some ⟨w.heap.size, 0, none⟩) 1 1) (w.alloc (.cells (encR x).toArray 79)) := fun w => by kernel_rfl
theorem bk79z : ∀ w, (Instr.build 79 #[]).run Try.prog w = .ok (.agg (encR rz).toArray) w := fun w => by kernel_rfl
def anyR (_ : Rw) : Bool := true
def knownR (r : Rw) : Bool := r.known
def valuedR (r : Rw) : Bool := r.known && decide (r.ch.op ≠ 3)
/-- the latest of a list, the first of those that are alike -/
def maxL (m : Rw) (l : List Rw) : Rw := l.foldl (fun m x => bif decide (cmpH x.hd m.hd > 0) then x else m) m
def maxT (L : List Rw) (i : Nat) : Rw := maxL (L.getD 0 rz) ((L.drop 1).take i)
theorem getD_getR {O : List Rw} {i : Nat} (h : i < O.length) : O[i]? = some (O.getD i rz) := by
  rw [List.getD_eq_getElem?_getD, List.getElem?_eq_getElem h]; rfl
theorem maxT_succ {L : List Rw} {i : Nat} (h : i + 1 < L.length) : maxT L (i + 1) = bif decide (cmpH (L.getD (i + 1) rz).hd (maxT L i).hd > 0) then L.getD (i + 1) rz else maxT L i := by
  unfold maxT
  have h1 : (L.drop 1).take (i + 1) = (L.drop 1).take i ++ [L.getD (i + 1) rz] := by
    rw [List.take_add_one, List.getElem?_drop, Nat.add_comm 1 i, List.getElem?_eq_getElem h]
    simp [List.getD_eq_getElem?_getD, List.getElem?_eq_getElem h]
  rw [h1]
  unfold maxL
  rw [List.foldl_append]; rfl
theorem maxT_t {L : List Rw} {i : Nat} (h : i + 1 < L.length) (hd : decide (cmpH (L.getD (i + 1) rz).hd (maxT L i).hd > 0) = true) : maxT L (i + 1) = L.getD (i + 1) rz := by rw [maxT_succ h, hd]; rfl
theorem maxT_f {L : List Rw} {i : Nat} (h : i + 1 < L.length) (hd : decide (cmpH (L.getD (i + 1) rz).hd (maxT L i).hd > 0) = false) : maxT L (i + 1) = maxT L i := by rw [maxT_succ h, hd]; rfl
def latR (q : Rw → Bool) (L : List Rw) : Rw × Bool := bif decide (((L.filter q).length : Int) = 0) then (rz, false) else (maxT (L.filter q) ((L.filter q).length - 1), true)
/-- deleting in place -/
structure DelInv (q : Rw → Bool) (L : List Rw) (j i : Nat) (P : List Rw) : Prop where
  len : P.length = L.length
  ij : i < j
  jn : j ≤ L.length
  head : P.take i = (L.take j).filter q
  tail : P.drop j = L.drop j
theorem take_filter_all {q : Rw → Bool} {L : List Rw} {i : Nat} (h : ∀ k, k < i → ∀ r, L[k]? = some r → q r = true) : (L.take i).filter q = L.take i := by
  refine List.filter_eq_self.2 fun r hr => ?_
  obtain ⟨k, hk⟩ := List.getElem?_of_mem hr
  rw [List.getElem?_take] at hk
  split at hk
  · rename_i hlt; exact h k hlt r hk
  · cases hk
theorem take_succR {L : List Rw} {j : Nat} (h : j < L.length) : L.take (j + 1) = L.take j ++ [L.getD j rz] := by
  rw [List.take_add_one, getD_getR h]; rfl
theorem DelInv.start {q : Rw → Bool} {L : List Rw} {i : Nat} (hi : i < L.length) (h : ∀ k, k < i → ∀ r, L[k]? = some r → q r = true) (hq : q (L.getD i rz) = false) : DelInv q L (i + 1) i L := by
  refine ⟨rfl, by omega, by omega, ?_, rfl⟩
  rw [take_succR hi, List.filter_append, take_filter_all h, List.filter_cons, hq, List.filter_nil]
  exact (List.append_nil _).symm
theorem DelInv.skip {q : Rw → Bool} {L P : List Rw} {i j : Nat} (h : DelInv q L j i P) (hj : j < L.length) (hq : q (L.getD j rz) = false) : DelInv q L (j + 1) i P := by
  refine ⟨h.len, by have := h.ij; omega, by omega, ?_, ?_⟩
  · rw [take_succR hj, List.filter_append, ← h.head, List.filter_cons, hq, List.filter_nil]
    exact (List.append_nil _).symm
  · rw [← List.drop_drop, h.tail, List.drop_drop]
theorem DelInv.keep {q : Rw → Bool} {L P : List Rw} {i j : Nat} (h : DelInv q L j i P) (hj : j < L.length) (hq : q (L.getD j rz) = true) : DelInv q L (j + 1) (i + 1) (P.set i (L.getD j rz)) := by
  have hij := h.ij
  have hl := h.len
  refine ⟨by rw [List.length_set]; exact hl, by omega, by omega, ?_, ?_⟩
  · rw [take_succR hj, List.filter_append, ← h.head]
    have : (P.set i (L.getD j rz)).take (i + 1) = P.take i ++ [L.getD j rz] := by
      rw [List.take_add_one, List.getElem?_set_self (by omega), List.take_set_of_le (by omega)]
      rfl
    rw [this, List.filter_cons, hq, List.filter_nil]; rfl
  · rw [List.drop_set_of_lt (by omega), ← List.drop_drop, h.tail, List.drop_drop]
theorem DelInv.get {q : Rw → Bool} {L P : List Rw} {i j : Nat} (h : DelInv q L j i P) (hj : j < L.length) : P.getD j rz = L.getD j rz := by
  have h1 : (P.drop j)[0]? = (L.drop j)[0]? := by rw [h.tail]
  rw [List.getElem?_drop, List.getElem?_drop] at h1
  rw [List.getD_eq_getElem?_getD, List.getD_eq_getElem?_getD]
  simpa using congrArg (·.getD rz) h1
theorem DelInv.done {q : Rw → Bool} {L P : List Rw} {i : Nat} (h : DelInv q L L.length i P) : P.take i = L.filter q ∧ i = (L.filter q).length := by
  have h1 := h.head
  rw [List.take_length] at h1
  refine ⟨h1, ?_⟩
  rw [← h1, List.length_take]
  have := h.ij; have := h.len
  omega
theorem DelInv.done' {q : Rw → Bool} {L P : List Rw} {i j : Nat} (h : DelInv q L j i P) (hj : j = L.length) : P.take i = L.filter q ∧ i = (L.filter q).length := by
  subst hj; exact h.done
end Go.Proofs.Ytkdbjhlkahkobaa
/- rows in a block: read, written, cleared -/
namespace Go.Proofs.Ytkdbjhlkahkobaa
open Jal Go.RowKit
set_option maxRecDepth 100000
section
variable {α : Type} {f : α → List Value} {sz : Nat}
theorem flat_split (hf : ∀ a, (f a).length = sz) (P : List α) (R : List Value) {j : Nat} (hj : j ≤ P.length) : P.flatMap f ++ R = (P.take j).flatMap f ++ ((P.drop j).flatMap f ++ R) ∧ ((P.take j).flatMap f).length = j * sz := by
  refine ⟨?_, ?_⟩
  · rw [← List.append_assoc, ← List.flatMap_append, List.take_append_drop]
  · rw [flatM_len hf, List.length_take, Nat.min_eq_left hj]
theorem flat_take (hf : ∀ a, (f a).length = sz) (P : List α) (R : List Value) {j : Nat} (hj : j ≤ P.length) : (P.flatMap f ++ R).take (j * sz) = (P.take j).flatMap f := by
  obtain ⟨h1, h2⟩ := flat_split hf P R hj
  rw [h1, ← h2, List.take_left']; rfl
theorem flat_drop (hf : ∀ a, (f a).length = sz) (P : List α) (R : List Value) {j : Nat} (hj : j ≤ P.length) : (P.flatMap f ++ R).drop (j * sz) = (P.drop j).flatMap f ++ R := by
  obtain ⟨h1, h2⟩ := flat_split hf P R hj
  rw [h1, ← h2, List.drop_left']; rfl
end
theorem drop_consR {P : List Rw} {j : Nat} (hj : j < P.length) : P.drop j = P.getD j rz :: P.drop (j + 1) := by
  rw [List.drop_eq_getElem_cons hj, List.getD_eq_getElem?_getD, List.getElem?_eq_getElem hj]; rfl
theorem rows_read {P : List Rw} {R : List Value} {j : Nat} {x : Rw} (hj : j < P.length) (hx : P.getD j rz = x) : ((P.flatMap encR ++ R).drop (0 + j * 130)).take 130 = encR x := by
  rw [Nat.zero_add, flat_drop encR_len P R (Nat.le_of_lt hj), drop_consR hj, List.flatMap_cons, List.append_assoc, hx, List.take_left' (encR_len x)]
theorem rows_write {P : List Rw} {R : List Value} {i : Nat} {x : Rw} (hi : i < P.length) : (P.flatMap encR ++ R).take (0 + i * 130) ++ encR x ++ (P.flatMap encR ++ R).drop (0 + i * 130 + (encR x).length) = (P.set i x).flatMap encR ++ R := by
  rw [encR_len, Nat.zero_add, show i * 130 + 130 = (i + 1) * 130 by omega, flat_take encR_len P R (Nat.le_of_lt hi), flat_drop encR_len P R (j := i + 1) (by omega), List.set_eq_take_append_cons_drop, if_pos hi]
  simp [List.flatMap_append, List.append_assoc]
theorem rows_len (P : List Rw) (R : List Value) : (P.flatMap encR ++ R).length = P.length * 130 + R.length := by rw [List.length_append, flatM_len encR_len]
def zrows (m : Nat) : List Value := (Builtin.zeroCells (encR rz).toArray m).toList
theorem zrows_len (m : Nat) : (zrows m).length = m * 130 := by
  unfold zrows
  rw [Array.length_toList, size_zeroCells]; rfl
theorem zrows_one (m : Nat) : ∀ v ∈ zrows m, v.oneCell' = true := by
  intro v hv
  unfold zrows Builtin.zeroCells at hv
  rw [Array.toList_map] at hv
  obtain ⟨i, _, rfl⟩ := List.mem_map.1 hv
  have h : i % (encR rz).toArray.size < (encR rz).toArray.size := Nat.mod_lt _ (by decide)
  rw [getElem!_pos (encR rz).toArray _ h]
  exact encR_one rz _ (by rw [List.getElem_toArray]; exact List.getElem_mem _)
theorem zrows_is (m : Nat) : ∀ z : Value, (∃ i, Try.prog.info? 79 = some i ∧ i.zero = some z) → (Builtin.zeroCells z.cells m).toList = zrows m := by
  rintro z ⟨i, h1, h2⟩
  obtain ⟨i', h1', h2', _⟩ := info_parts (P := Try.prog) (e := 79) (z := .agg (encR rz).toArray) (size := 130) (bytes := 304) (by kernel_rfl)
  rw [h1] at h1'
  cases h1'
  rw [h2] at h2'
  cases h2'
  rfl
/-- what was cleared behind i rows -/
theorem rows_cleared {P : List Rw} {R : List Value} {n i cap g : Nat} (hP : P.length = n) (hi : i < n) (hn : n ≤ cap) (hc : cap ≤ maxLen) (hR : n * 130 + R.length = cap * 130) :
    OwnL 79 130 (.slice (some ⟨g, 0, none⟩) i cap) i ((P.take i).flatMap encR) [⟨g, (P.flatMap encR ++ R).take (0 + i * 130) ++ zrows (n - i) ++ (P.flatMap encR ++ R).drop (0 + i * 130 + (zrows (n - i)).length), 79⟩] := by
  have hil : i ≤ P.length := by omega
  have h1 : ((P.take i).flatMap encR).length = i * 130 := by rw [flatM_len encR_len, List.length_take, Nat.min_eq_left hil]
  refine ⟨h1, .inr ⟨g, cap, _, rfl, rfl, by omega, hc, ?_, ?_⟩⟩
  · rw [Nat.zero_add, flat_take encR_len P R hil, zrows_len, List.length_append, List.length_append, h1, zrows_len, List.length_drop, rows_len, hP]
    omega
  · rw [Nat.zero_add, flat_take encR_len P R hil, List.append_assoc, ← h1, List.take_left' rfl]
end Go.Proofs.Ytkdbjhlkahkobaa
/- items as plain data -/
namespace Go.Proofs.Ytkdbjhlkahkobaa
open Jal Go.RowKit
set_option maxRecDepth 100000
structure It where
  tok : Nat → Int
  hd : Hd
  known : Bool
  alive : Bool
  name : ByteArray
  gp : Option Addr
  gn : Nat
  gc : Nat
  tag : Nat → ByteArray
  value : ByteArray
def encI (i : It) : List Value := arr .u8 16 i.tok ++ (encH i.hd ++ [.bool i.known, .bool i.alive, .string i.name, .slice i.gp i.gn i.gc, .string i.value])
def iz : It := ⟨fun _ => 0, hz, false, false, ByteArray.empty, none, 0, 0, fun _ => ByteArray.empty, ByteArray.empty⟩
theorem encI_len (i : It) : (encI i).length = 146 := rfl
theorem encI_tok (i : It) : ((encI i).drop 0).take 16 = arr .u8 16 i.tok := rfl
theorem encI_hd (i : It) : ((encI i).drop 16).take 125 = encH i.hd := rfl
theorem encI_one (i : It) : ∀ u ∈ encI i, u.oneCell' = true := oneA rfl
theorem encI_setAlive (i : It) (a : Bool) : (encI i).set 142 (.bool a) = encI { i with alive := a } := rfl
theorem encI_setTags (i : It) (p : Option Addr) (n c : Nat) (t : Nat → ByteArray) : (encI i).set 144 (.slice p n c) = encI { i with gp := p, gn := n, gc := c, tag := t } := rfl
theorem encI_setValue (i : It) (v : ByteArray) : (encI i).set 145 (.string v) = encI { i with value := v } := rfl
theorem encI_setTok (i : It) (p : Option Addr) (c : Nat) : (encI i).set (0 + 16 + 53) (.slice p i.hd.tn c) = encI { i with hd := { i.hd with tp := p, tc := c } } := rfl
theorem bk83 (t : Nat → Int) (h : Hd) (k : Bool) (s : ByteArray) : ∀ w, (Instr.build 83 #[(0, .agg (arr .u8 16 t).toArray), (1, .agg (encH h).toArray), (2, .bool k), (4, .string s)]).run Try.prog w = .ok (.agg (encI ⟨t, h, k, false, s, none, 0, 0, fun _ => ByteArray.empty, ByteArray.empty⟩).toArray) w := fun w => by kernel_rfl
def coreI (i : It) : It := { i with hd := core i.hd, gp := none, gc := 0 }
/-- the item of some rows -/
def madeI (tok : Nat → Int) (L : List Rw) : It :=
  bif (latR valuedR L).2 && decide ((latR valuedR L).1.ch.op = 1) then
    ⟨tok, (latR anyR L).1.hd, (latR anyR L).1.known, true, (latR knownR L).1.ch.name, (latR knownR L).1.ch.gp, (latR knownR L).1.ch.gn, (latR knownR L).1.ch.gc, (latR knownR L).1.ch.tag, (latR valuedR L).1.ch.value⟩
  else ⟨tok, (latR anyR L).1.hd, (latR anyR L).1.known, false, (latR knownR L).1.ch.name, none, 0, 0, fun _ => ByteArray.empty, ByteArray.empty⟩
structure ItIn (H : List Ent) (i : It) : Prop where
  h : SlIn H i.hd.tp i.hd.tn 16 (fun k => arr .u8 16 (i.hd.tok k))
  g : SlIn H i.gp i.gn 1 (fun k => encT (i.tag k))
theorem maxL_mem (m : Rw) : ∀ (l : List Rw), maxL m l = m ∨ maxL m l ∈ l
  | [] => .inl rfl
  | x :: l => by
    have e : maxL m (x :: l) = maxL (bif decide (cmpH x.hd m.hd > 0) then x else m) l := rfl
    rw [e]
    rcases maxL_mem (bif decide (cmpH x.hd m.hd > 0) then x else m) l with h | h
    · rw [h]
      cases decide (cmpH x.hd m.hd > 0) with
      | true => exact .inr (by simp)
      | false => exact .inl rfl
    · exact .inr (List.mem_cons_of_mem _ h)
theorem maxT_mem {L : List Rw} {i : Nat} (h : 0 < L.length) : maxT L i ∈ L := by
  unfold maxT
  rcases maxL_mem (L.getD 0 rz) ((L.drop 1).take i) with h1 | h1
  · rw [h1, List.getD_eq_getElem?_getD, List.getElem?_eq_getElem h]
    exact List.getElem_mem h
  · exact List.mem_of_mem_drop (List.mem_of_mem_take h1)
theorem lat_all {q : Rw → Bool} {l : Nat → Rw} {n : Nat} {Pr : Rw → Prop} (h0 : Pr rz) (h : ∀ i, i < n → Pr (l i)) : Pr (latR q (rowsL l n)).1 := by
  unfold latR
  cases hd : decide ((((rowsL l n).filter q).length : Int) = 0) with
  | true => exact h0
  | false =>
    have h1 : 0 < ((rowsL l n).filter q).length := by simp only [decide_eq_false_iff_not] at hd; omega
    have h2 := (List.mem_filter.1 (maxT_mem (i := ((rowsL l n).filter q).length - 1) h1)).1
    obtain ⟨i, hi, h3⟩ := List.mem_map.1 h2
    show Pr (maxT ((rowsL l n).filter q) (((rowsL l n).filter q).length - 1))
    rw [← h3]
    exact h i (List.mem_range.1 hi)
end Go.Proofs.Ytkdbjhlkahkobaa
/- walks, printed by a program of ours -/
namespace Go.Proofs.Ytkdbjhlkahkobaa
open Jal Go.RowKit
set_option maxRecDepth 100000
theorem clrp_calls (w : World) (p : Option Addr) (n c : Nat) (l : Nat → Rw) (hn : n ≤ 100) (hl : Sl w p n 130 (fun i => encR (l i))) (hpos : 0 < n) : Calls Try.prog 133 #[.slice p n c] w (RetM (fun v Hn => OwnL 79 130 v n ((List.range n).flatMap (fun i => encR (l i))) Hn) w) := by
  refine fn_calls (n := 8) Try.func133 rfl rfl (lb rfl) ?_
  obtain ⟨b, o, rfl, hbl, hm⟩ := hl.at hpos
  refine cseq ?_
  refine creg ?_
  refine l1 (asgs rfl) ?_
  refine lnil ?_
  refine nthen ?_
  refine cseq ?_
  refine cseq ?_
  refine creg ?_
  refine l1 (mvs rfl) ?_
  refine l1 (eqnil sl74 rfl rfl) ?_
  refine lnil ?_
  refine nthen ?_
  refine ciff rfl ?_
  refine cskip ?_
  refine nthen ?_
  refine cseq ?_
  refine creg ?_
  refine lbs Try.underlying74 rfl (bs74z) (fun b1 => ?_)
  refine l1 (mvs rfl) ?_
  refine lapp [] [] [⟨b1, [], 79⟩] (xs := []) el74 rfl rfl ⟨rfl, .inr ⟨b1, 0, [], rfl, rfl, Nat.le_refl _, by decide, rfl, rfl⟩⟩ rfl (news := (List.range n).flatMap (fun i => encR (l i))) (by rw [flatM_len (sz := 130) (fun a => rfl), List.length_range]) (fun w' hw => (mem_flat (by decide) (fun i => rfl) (fun i hi => (hm i hi).kept hw.below hbl))) (fun u hu => by obtain ⟨i, _, hi⟩ := List.mem_flatMap.1 hu; exact encR_one (l i) u hi) hpos (by unfold maxLen; omega) (by omega) ?_
  intro g cap oe hown0
  have hown : OwnL 79 130 (.slice (some ⟨g, 0, none⟩) n cap) n ((List.range n).flatMap (fun i => encR (l i))) oe := by simpa using hown0
  refine l1 (asgs rfl) ?_
  refine lnil ?_
  refine nthen ?_
  refine cret ?_
  exact finM (.slice (some ⟨g, 0, none⟩) (0 + n) cap) oe (rv1 rfl (rvt rfl)) ⟨oe, List.Perm.refl _, by simp⟩ (by rw [Nat.zero_add]; exact hown)

theorem clrn_calls (w : World) (c : Nat) (l : Nat → Rw) : Calls Try.prog 133 #[.slice none 0 c] w (RetM (fun v Hn => OwnL 79 130 v 0 ((List.range 0).flatMap (fun i => encR (l i))) Hn) w) := by
  refine fn_calls (n := 8) Try.func133 rfl rfl (lb rfl) ?_
  refine cseq ?_
  refine creg ?_
  refine l1 (asgs rfl) ?_
  refine lnil ?_
  refine nthen ?_
  refine cseq ?_
  refine cseq ?_
  refine creg ?_
  refine l1 (mvs rfl) ?_
  refine l1 (eqnil sl74 rfl rfl) ?_
  refine lnil ?_
  refine nthen ?_
  refine cift rfl ?_
  refine cseq ?_
  refine creg ?_
  refine l1 (asgs rfl) ?_
  refine lnil ?_
  refine nthen ?_
  refine cret ?_
  refine nthenR ?_
  exact finM _ [] (rv1 rfl (rvt rfl)) ⟨[], List.Perm.refl _, List.nil_sublist _⟩ (OwnL.nil 79 130)

theorem clr0_calls (w : World) (a : Addr) (c : Nat) (l : Nat → Rw) : Calls Try.prog 133 #[.slice (some a) 0 c] w (RetM (fun v Hn => OwnL 79 130 v 0 ((List.range 0).flatMap (fun i => encR (l i))) Hn) w) := by
  refine fn_calls (n := 8) Try.func133 rfl rfl (lb rfl) ?_
  refine cseq ?_
  refine creg ?_
  refine l1 (asgs rfl) ?_
  refine lnil ?_
  refine nthen ?_
  refine cseq ?_
  refine cseq ?_
  refine creg ?_
  refine l1 (mvs rfl) ?_
  refine l1 (eqnil sl74 rfl rfl) ?_
  refine lnil ?_
  refine nthen ?_
  refine ciff rfl ?_
  refine cskip ?_
  refine nthen ?_
  refine cseq ?_
  refine creg ?_
  refine lbs Try.underlying74 rfl (bs74z) (fun b1 => ?_)
  refine l1 (mvs rfl) ?_
  refine l1 (lapp0 el74 rfl (Nat.le_refl _) rfl) ?_
  refine l1 (asgs rfl) ?_
  refine lnil ?_
  refine nthen ?_
  refine cret ?_
  exact finM _ [⟨b1, [], 79⟩] (rv1 rfl (rvt rfl)) ⟨_, List.Perm.refl _, List.Sublist.refl _⟩ ⟨rfl, .inr ⟨b1, 0, [], rfl, rfl, Nat.le_refl _, by decide, rfl, rfl⟩⟩

theorem clr_calls (w : World) (p : Option Addr) (n c : Nat) (l : Nat → Rw) (hn : n ≤ 100) (hl : Sl w p n 130 (fun i => encR (l i))) : Calls Try.prog 133 #[.slice p n c] w (RetM (fun v Hn => OwnL 79 130 v n ((List.range n).flatMap (fun i => encR (l i))) Hn) w) := by
  rcases Nat.eq_zero_or_pos n with h | h
  · subst h
    cases p with
    | none => exact clrn_calls w c l
    | some a => exact clr0_calls w a c l
  · exact clrp_calls w p n c l hn hl h

theorem clsp_calls (w : World) (p : Option Addr) (n c : Nat) (l : Nat → ByteArray) (hn : n ≤ 100) (hl : Sl w p n 1 (fun i => encT (l i))) (hpos : 0 < n) : Calls Try.prog 118 #[.slice p n c] w (RetM (fun v Hn => OwnL 9 1 v n ((List.range n).flatMap (fun i => encT (l i))) Hn) w) := by
  refine fn_calls (n := 8) Try.func118 rfl rfl (lb rfl) ?_
  obtain ⟨b, o, rfl, hbl, hm⟩ := hl.at hpos
  refine cseq ?_
  refine creg ?_
  refine l1 (asgs rfl) ?_
  refine lnil ?_
  refine nthen ?_
  refine cseq ?_
  refine cseq ?_
  refine creg ?_
  refine l1 (mvs rfl) ?_
  refine l1 (eqnil sl75 rfl rfl) ?_
  refine lnil ?_
  refine nthen ?_
  refine ciff rfl ?_
  refine cskip ?_
  refine nthen ?_
  refine cseq ?_
  refine creg ?_
  refine lbs Try.underlying75 rfl (bs75z) (fun b1 => ?_)
  refine l1 (mvs rfl) ?_
  refine lapp [] [] [⟨b1, [], 9⟩] (xs := []) el75 rfl rfl ⟨rfl, .inr ⟨b1, 0, [], rfl, rfl, Nat.le_refl _, by decide, rfl, rfl⟩⟩ rfl (news := (List.range n).flatMap (fun i => encT (l i))) (by rw [flatM_len (sz := 1) (fun a => rfl), List.length_range]) (fun w' hw => (mem_flat (by decide) (fun i => rfl) (fun i hi => (hm i hi).kept hw.below hbl))) (fun u hu => by obtain ⟨i, _, hi⟩ := List.mem_flatMap.1 hu; exact (oneA (vs := encT (l i)) rfl) u hi) hpos (by unfold maxLen; omega) (by omega) ?_
  intro g cap oe hown0
  have hown : OwnL 9 1 (.slice (some ⟨g, 0, none⟩) n cap) n ((List.range n).flatMap (fun i => encT (l i))) oe := by simpa using hown0
  refine l1 (asgs rfl) ?_
  refine lnil ?_
  refine nthen ?_
  refine cret ?_
  exact finM (.slice (some ⟨g, 0, none⟩) (0 + n) cap) oe (rv1 rfl (rvt rfl)) ⟨oe, List.Perm.refl _, by simp⟩ (by rw [Nat.zero_add]; exact hown)

theorem clsn_calls (w : World) (c : Nat) (l : Nat → ByteArray) : Calls Try.prog 118 #[.slice none 0 c] w (RetM (fun v Hn => OwnL 9 1 v 0 ((List.range 0).flatMap (fun i => encT (l i))) Hn) w) := by
  refine fn_calls (n := 8) Try.func118 rfl rfl (lb rfl) ?_
  refine cseq ?_
  refine creg ?_
  refine l1 (asgs rfl) ?_
  refine lnil ?_
  refine nthen ?_
  refine cseq ?_
  refine cseq ?_
  refine creg ?_
  refine l1 (mvs rfl) ?_
  refine l1 (eqnil sl75 rfl rfl) ?_
  refine lnil ?_
  refine nthen ?_
  refine cift rfl ?_
  refine cseq ?_
  refine creg ?_
  refine l1 (asgs rfl) ?_
  refine lnil ?_
  refine nthen ?_
  refine cret ?_
  refine nthenR ?_
  exact finM _ [] (rv1 rfl (rvt rfl)) ⟨[], List.Perm.refl _, List.nil_sublist _⟩ (OwnL.nil 9 1)

theorem cls0_calls (w : World) (a : Addr) (c : Nat) (l : Nat → ByteArray) : Calls Try.prog 118 #[.slice (some a) 0 c] w (RetM (fun v Hn => OwnL 9 1 v 0 ((List.range 0).flatMap (fun i => encT (l i))) Hn) w) := by
  refine fn_calls (n := 8) Try.func118 rfl rfl (lb rfl) ?_
  refine cseq ?_
  refine creg ?_
  refine l1 (asgs rfl) ?_
  refine lnil ?_
  refine nthen ?_
  refine cseq ?_
  refine cseq ?_
  refine creg ?_
  refine l1 (mvs rfl) ?_
  refine l1 (eqnil sl75 rfl rfl) ?_
  refine lnil ?_
  refine nthen ?_
  refine ciff rfl ?_
  refine cskip ?_
  refine nthen ?_
  refine cseq ?_
  refine creg ?_
  refine lbs Try.underlying75 rfl (bs75z) (fun b1 => ?_)
  refine l1 (mvs rfl) ?_
  refine l1 (lapp0 el75 rfl (Nat.le_refl _) rfl) ?_
  refine l1 (asgs rfl) ?_
  refine lnil ?_
  refine nthen ?_
  refine cret ?_
  exact finM _ [⟨b1, [], 9⟩] (rv1 rfl (rvt rfl)) ⟨_, List.Perm.refl _, List.Sublist.refl _⟩ ⟨rfl, .inr ⟨b1, 0, [], rfl, rfl, Nat.le_refl _, by decide, rfl, rfl⟩⟩

theorem cls_calls (w : World) (p : Option Addr) (n c : Nat) (l : Nat → ByteArray) (hn : n ≤ 100) (hl : Sl w p n 1 (fun i => encT (l i))) : Calls Try.prog 118 #[.slice p n c] w (RetM (fun v Hn => OwnL 9 1 v n ((List.range n).flatMap (fun i => encT (l i))) Hn) w) := by
  rcases Nat.eq_zero_or_pos n with h | h
  · subst h
    cases p with
    | none => exact clsn_calls w c l
    | some a => exact cls0_calls w a c l
  · exact clsp_calls w p n c l hn hl h

theorem any_calls (x : Rw) (w : World) : Calls Try.prog 115 #[.agg (encR x).toArray] w (Ret (.bool (anyR x)) w) := by
  refine fn_calls (n := 3) Try.func115 rfl rfl (lb rfl) ?_
  refine cseq ?_
  refine creg ?_
  refine lbxa rfl (fun b1 => ?_)
  refine l1 (asgb rfl) ?_
  refine lnil ?_
  refine nthen ?_
  refine cseq ?_
  refine creg ?_
  refine l1 (asgb rfl) ?_
  refine lnil ?_
  refine nthen ?_
  refine cret ?_
  exact fin1b rfl rfl (by first | rfl | (simp only [anyR, decide_eq_true_eq, cond_true, cond_false]; done) | (simp only [anyR, decide_eq_true_eq, cond_true, cond_false]; rfl))

theorem known_calls (x : Rw) (w : World) : Calls Try.prog 116 #[.agg (encR x).toArray] w (Ret (.bool (knownR x)) w) := by
  refine fn_calls (n := 5) Try.func116 rfl rfl (lb rfl) ?_
  refine cseq ?_
  refine creg ?_
  refine lbxa rfl (fun b1 => ?_)
  refine l1 (asgb rfl) ?_
  refine lnil ?_
  refine nthen ?_
  refine cseq ?_
  refine creg ?_
  refine l1 (fa fa79_1 rfl) ?_
  refine l1 (ldc 0 Try.isAgg4 rfl rfl rfl) ?_
  refine l1 (asgb rfl) ?_
  refine lnil ?_
  refine nthen ?_
  refine cret ?_
  exact fin1b rfl rfl (by first | rfl | (simp only [knownR, decide_eq_true_eq, cond_true, cond_false]; done) | (simp only [knownR, decide_eq_true_eq, cond_true, cond_false]; rfl))

theorem valued_calls (x : Rw) (w : World) : Calls Try.prog 117 #[.agg (encR x).toArray] w (Ret (.bool (valuedR x)) w) := by
  refine fn_calls (n := 11) Try.func117 rfl rfl (lb rfl) ?_
  refine cseq ?_
  refine creg ?_
  refine lbxa rfl (fun b1 => ?_)
  refine l1 (asgb rfl) ?_
  refine lnil ?_
  refine nthen ?_
  refine cseq ?_
  refine creg ?_
  refine l1 (fa fa79_1 rfl) ?_
  refine l1 (ldc 0 Try.isAgg4 rfl rfl rfl) ?_
  refine l1 (mvb rfl) ?_
  refine l1g rfl (gwt rfl) (fun h => fa fa79_2 rfl) ?_
  refine l1g rfl (gwt rfl) (fun h => fa fa77_0 (gvt h)) ?_
  refine l1g rfl (gwt rfl) (fun h => ldc 0 Try.isAgg3 rfl (gvt h) rfl) ?_
  refine l1g rfl (gwt rfl) (fun h => neq (gvt h) rfl) ?_
  refine l1 (pk_and rfl rfl rfl) ?_
  refine l1 (asgb rfl) ?_
  refine lnil ?_
  refine nthen ?_
  refine cret ?_
  exact fin1b rfl rfl (by first | rfl | (simp only [valuedR, decide_eq_true_eq, cond_true, cond_false]; done) | (simp only [valuedR, decide_eq_true_eq, cond_true, cond_false]; rfl))

def PredC (w : World) (f : FuncId) (es : List Value) (q : Rw → Bool) (x : Rw) : Prop := ∀ w' H, Sat w H w' → Calls Try.prog f (.agg (encR x).toArray :: es).toArray w' (Ret (.bool (q x)) w')

theorem nota_calls (x : Rw) (w : World) (k : FuncId) (q : Rw → Bool) (b : Nat) (hk : HasBody Try.prog k) (hq : PredC w k [] q x) (hb : b < w.heap.size) (hm : w.cell? ⟨b, 0, none⟩ = some (.func (.func k) #[] #[])) : Calls Try.prog 134 #[.agg (encR x).toArray, .pointer (some ⟨b, 0, none⟩)] w (Ret (.bool (!q x)) w) := by
  refine fn_calls (n := 8) Try.func134 rfl rfl (lb rfl) ?_
  refine cseq ?_
  refine creg ?_
  refine lbxa rfl (fun b1 => ?_)
  refine l1 (asgb rfl) ?_
  refine lnil ?_
  refine nthen ?_
  refine cseq ?_
  refine creg ?_
  refine l1 (ldm (v := .func (.func k) #[] #[]) Try.isAgg81 rfl (fun w' hw => (hw.below.cell hb).trans hm)) ?_
  refine l1 (ldw 0 Try.isAgg79 Try.sizeOf79 rfl rfl rfl) ?_
  refine l1 (cl hk rfl (mc rfl mn) (fun w' hw => hq w' _ hw)) ?_
  refine l1 (nt rfl) ?_
  refine l1 (asgb rfl) ?_
  refine lnil ?_
  refine nthen ?_
  refine cret ?_
  exact fin1b rfl rfl rfl

def idxR (q : Rw → Bool) (l : Nat → Rw) (n : Nat) : Int := match (List.range n).find? (fun i => q (l i)) with | some i => (i : Int) | none => -1
theorem find_range {p : Nat → Bool} {n i : Nat} (hi : i < n) (h : p i = true) (hb : ∀ j, j < i → p j = false) : (List.range n).find? p = some i := by
  rw [List.find?_range_eq_some]
  exact ⟨h, List.mem_range.2 hi, fun j hj => by simpa using hb j hj⟩
theorem idx_yes {q : Rw → Bool} {l : Nat → Rw} {n i : Nat} (hi : i < n) (h : q (l i) = true) (hb : ∀ j, j < i → q (l j) = false) : idxR q l n = (i : Int) := by
  unfold idxR
  rw [find_range (p := fun i => q (l i)) hi h hb]
theorem idx_no {q : Rw → Bool} {l : Nat → Rw} {n : Nat} (hb : ∀ j, j < n → q (l j) = false) : idxR q l n = -1 := by
  unfold idxR
  rw [List.find?_range_eq_none.2 (fun j hj => by simpa using hb j hj)]
theorem idx_case (q : Rw → Bool) (l : Nat → Rw) (n : Nat) : (idxR q l n = -1 ∧ ∀ j, j < n → q (l j) = false) ∨ ∃ i : Nat, idxR q l n = (i : Int) ∧ i < n ∧ q (l i) = true ∧ ∀ j, j < i → q (l j) = false := by
  cases h : (List.range n).find? (fun i => q (l i)) with
  | none =>
    refine .inl ⟨by unfold idxR; rw [h], fun j hj => ?_⟩
    have := List.find?_range_eq_none.1 h j hj
    simpa using this
  | some i =>
    have h2 := List.find?_range_eq_some.1 h
    exact .inr ⟨i, by unfold idxR; rw [h], List.mem_range.1 h2.2.1, h2.1, fun j hj => by simpa using h2.2.2 j hj⟩

theorem idxf_calls (w : World) (p : Option Addr) (n c : Nat) (l : Nat → Rw) (hn : n ≤ 100) (hl : Sl w p n 130 (fun i => encR (l i))) (f : FuncId) (es : List Value) (q : Rw → Bool) (hf : HasBody Try.prog f) (hq : ∀ i, i < n → PredC w f es q (l i)) : Calls Try.prog 148 #[.slice p n c, .func (.func f) #[] es.toArray] w (Ret (.int .i64 (idxR q l n)) w) := by
  refine fn_calls (n := 19) Try.func148 rfl rfl (lb rfl) ?_
  refine cseq ?_
  refine creg ?_
  refine l1 (asgi rfl) ?_
  refine lnil ?_
  refine nthen ?_
  refine cseq ?_
  refine cseq ?_
  refine creg ?_
  refine l1 (mvs rfl) ?_
  refine l1 (lens sl74 rfl rfl) ?_
  refine l1 (mvi rfl) ?_
  refine lnil ?_
  refine nthen ?_
  refine cblock ?_
  refine cloopI (σ := Nat) (fun s => [(0, .slice p n c), (1, .func (.func f) #[] es.toArray), (7, .int .i64 (n : Int)), (8, .int .i64 (s : Int))]) (fun s => []) (fun s => s ≤ n ∧ ∀ j, j < s → q (l j) = false) (fun s => n - s) 0 ⟨Nat.zero_le _, fun j hj => by omega⟩ ⟨rfl, rfl, rfl, rfl, trivial⟩ (List.Sublist.refl _) ?_
  rintro i j hI
  show WC _ _ _ ([]) _ _ (over j [(0, .slice p n c), (1, .func (.func f) #[] es.toArray), (7, .int .i64 (n : Int)), (8, .int .i64 (i : Int))])
  replace hI : i ≤ n ∧ ∀ j, j < i → q (l j) = false := hI
  refine cseq ?_
  refine creg ?_
  refine l1 (lss rfl rfl) ?_
  refine lnil ?_
  refine nthen ?_
  refine cseq ?_
  refine cif rfl (fun h1 => ?_) (fun h1 => ?_)
  · have hlt : i < n := by (have := dt h1; omega)
    obtain ⟨b, o, hp, hbl, hm⟩ := hl.at hlt
    refine cskip ?_
    refine nthen ?_
    refine cseq ?_
    refine cblock ?_
    refine cseq ?_
    refine creg ?_
    refine l1 (mvi rfl) ?_
    refine l1 (asgi rfl) ?_
    refine lnil ?_
    refine nthen ?_
    refine cseq ?_
    refine creg ?_
    refine l1 (mvf rfl) ?_
    refine l1 (mvs rfl) ?_
    refine l1 (mvi rfl) ?_
    refine l1 (isp sl74 hp rfl rfl (by omega) (by omega)) ?_
    refine l1 (ldam (vs := encR (l i)) Try.isAgg79 Try.sizeOf79 rfl rfl (fun w' hw => (hm i hlt).kept hw.below hbl)) ?_
    refine l1 (clc hf rfl (mc rfl mn) (fun w' hw => hq i hlt w' _ hw)) ?_
    refine lnil ?_
    refine nthen ?_
    refine cif rfl (fun h2 => ?_) (fun h2 => ?_)
    · skip
      refine cseq ?_
      refine creg ?_
      refine l1 (mvi rfl) ?_
      refine l1 (asgi rfl) ?_
      refine lnil ?_
      refine nthen ?_
      refine cret ?_
      refine nblkR ?_
      refine nthenR ?_
      refine nIR ?_
      refine nblkR ?_
      refine nthenR ?_
      exact fin1i rfl rfl (by rw [idx_yes hlt h2 hI.2])
    · skip
      refine cskip ?_
      refine nblkN ?_
      refine nthen ?_
      refine creg ?_
      first | refine l1 (addn rfl rfl (ri (by omega) (by omega))) ?_ | refine l1 (add rfl rfl) ?_
      refine l1 (mvi rfl) ?_
      refine lnil ?_
      exact nI (i + 1) ⟨by omega, fun j hj => (Nat.lt_succ_iff_lt_or_eq.1 hj).elim (fun h => hI.2 j h) (fun h => by subst h; exact h2)⟩ (by show n - (i + 1) < n - i; omega) ⟨rfl, rfl, rfl, rfl, trivial⟩ (List.Sublist.refl _)
  · skip
    refine cexit ?_
    refine nthenE ?_
    refine nIE ?_
    refine nblkE ?_
    refine nthen ?_
    refine cseq ?_
    refine creg ?_
    refine l1 (asgi rfl) ?_
    refine lnil ?_
    refine nthen ?_
    refine cret ?_
    exact fin1i rfl rfl (by rw [idx_no (fun j hj => hI.2 j (by have := df h1; omega))])

theorem rowsL_all {q : Rw → Bool} {l : Nat → Rw} {n : Nat} (hno : ∀ j, j < n → q (l j) = false) : ((rowsL l n).filter (fun r => !q r)) = (rowsL l n) := List.filter_eq_self.2 fun r hr => by
  obtain ⟨j, hj, rfl⟩ := List.mem_map.1 hr
  rw [hno j (List.mem_range.1 hj)]; rfl
theorem rowsL_d {l : Nat → Rw} {n j : Nat} (hj : j < n) : (rowsL l n).getD j rz = l j := by
  rw [List.getD_eq_getElem?_getD, rowsL_get hj]; rfl

theorem delfn_calls (w0 w : World) (T oe : List Ent) (p : Option Addr) (n c : Nat) (l : Nat → Rw) (hn : n ≤ 100) (hs : Sat w0 (oe ++ T) w) (ho : OwnL 79 130 (.slice p n c) n ((rowsL l n).flatMap encR) oe) (f : FuncId) (es : List Value) (q : Rw → Bool) (hf : HasBody Try.prog f) (hq : ∀ i, i < n → ∀ w', Sat w0 T w' → Calls Try.prog f (.agg (encR (l i)).toArray :: es).toArray w' (Ret (.bool (q (l i))) w')) (hno : ∀ j, j < n → q (l j) = false) : Calls Try.prog 132 #[.slice p n c, .func (.func f) #[] es.toArray] w (RetS w0 (fun v' H' => ∃ oe', H' = oe' ++ T ∧ OwnL 79 130 v' ((rowsL l n).filter (fun r => !q r)).length (((rowsL l n).filter (fun r => !q r)).flatMap encR) oe')) := by
  refine fn_callsH (n := 42) (H := oe ++ T) hs Try.func132 rfl rfl (lb rfl) ?_
  refine cseq ?_
  refine creg ?_
  refine l1 (asgs rfl) ?_
  refine lnil ?_
  refine nthen ?_
  refine cseq ?_
  refine creg ?_
  refine l1 (mvs rfl) ?_
  refine l1 (mvf rfl) ?_
  refine l1 (cl (v := .int .i64 (-1)) hb148 rfl (mc rfl (mc rfl mn)) (fun w' hw => by (have hidx := idxf_calls w' p n c l hn (SlIn.sl (ho.slInL (fun a => rfl) (fun i hi => ⟨l i, rowsL_get hi, rfl⟩)) (hw.sub (List.sublist_append_left _ _))) f es q hf (fun i hi w'' H'' hw2 => hq i hi w'' ((hw.join hw2).sub ((List.sublist_append_right _ _).trans (List.sublist_append_left _ _)))); rw [idx_no hno] at hidx; exact hidx))) ?_
  refine l1 (asgi rfl) ?_
  refine lnil ?_
  refine nthen ?_
  refine cseq ?_
  refine cseq ?_
  refine creg ?_
  refine l1 (mvi rfl) ?_
  refine l1 (eql rfl rfl) ?_
  refine lnil ?_
  refine nthen ?_
  refine cift rfl ?_
  refine cseq ?_
  refine creg ?_
  refine l1 (mvs rfl) ?_
  refine l1 (asgs rfl) ?_
  refine lnil ?_
  refine nthen ?_
  refine cret ?_
  refine nthenR ?_
  exact finS (.slice p n c) (oe ++ T) (rv1 rfl (rvt rfl)) ⟨_, List.Perm.refl _, List.Sublist.refl _⟩ ⟨oe, rfl, by rw [rowsL_all hno, rowsL_len]; exact ho⟩

set_option maxHeartbeats 1000000 in
theorem delfp_calls (w0 w : World) (T : List Ent) (g n cap : Nat) (R : List Value) (l : Nat → Rw) (hn : n ≤ 100) (hs : Sat w0 (⟨g, (rowsL l n).flatMap encR ++ R, 79⟩ :: T) w) (hcap : n ≤ cap) (hcm : cap ≤ maxLen) (hR : n * 130 + R.length = cap * 130) (f : FuncId) (es : List Value) (q : Rw → Bool) (hf : HasBody Try.prog f) (hq : ∀ i, i < n → ∀ w', Sat w0 T w' → Calls Try.prog f (.agg (encR (l i)).toArray :: es).toArray w' (Ret (.bool (q (l i))) w')) (k0 : Nat) (hk0 : k0 < n) (hx0 : idxR q l n = (k0 : Int)) (hq0 : q (l k0) = true) (hb0 : ∀ j, j < k0 → q (l j) = false) : Calls Try.prog 132 #[.slice (some ⟨g, 0, none⟩) n cap, .func (.func f) #[] es.toArray] w (RetS w0 (fun v' H' => ∃ oe', H' = oe' ++ T ∧ OwnL 79 130 v' ((rowsL l n).filter (fun r => !q r)).length (((rowsL l n).filter (fun r => !q r)).flatMap encR) oe')) := by
  refine fn_callsH (n := 42) (H := ⟨g, (rowsL l n).flatMap encR ++ R, 79⟩ :: T) hs Try.func132 rfl rfl (lb rfl) ?_
  have ho : OwnL 79 130 (.slice (some ⟨g, 0, none⟩) n cap) n ((rowsL l n).flatMap encR) [⟨g, (rowsL l n).flatMap encR ++ R, 79⟩] := ⟨by rw [flatM_len encR_len, rowsL_len], .inr ⟨g, cap, _, rfl, rfl, hcap, hcm, by rw [rows_len, rowsL_len]; exact hR, by rw [flat_take encR_len _ _ (by rw [rowsL_len]; exact Nat.le_refl _), List.take_of_length_le (by rw [rowsL_len]; exact Nat.le_refl _)]⟩⟩
  have hI0 : DelInv (fun r => !q r) (rowsL l n) (k0 + 1) k0 (rowsL l n) := DelInv.start (by rw [rowsL_len]; exact hk0) (fun k hk r hr => by rw [rowsL_get (by omega)] at hr; cases hr; rw [hb0 k hk]; rfl) (by rw [rowsL_d hk0, hq0]; rfl)
  refine cseq ?_
  refine creg ?_
  refine l1 (asgs rfl) ?_
  refine lnil ?_
  refine nthen ?_
  refine cseq ?_
  refine creg ?_
  refine l1 (mvs rfl) ?_
  refine l1 (mvf rfl) ?_
  refine l1 (cl (v := .int .i64 (k0 : Int)) hb148 rfl (mc rfl (mc rfl mn)) (fun w' hw => by (have hidx := idxf_calls w' (some ⟨g, 0, none⟩) n cap l hn (SlIn.sl (ho.slInL (fun a => rfl) (fun i hi => ⟨l i, rowsL_get hi, rfl⟩)) (hw.sub (List.Sublist.cons_cons _ (List.nil_sublist _)))) f es q hf (fun i hi w'' H'' hw2 => hq i hi w'' ((hw.join hw2).sub ((List.Sublist.cons _ (List.Sublist.refl _)).trans (List.sublist_append_left _ _)))); rw [hx0] at hidx; exact hidx))) ?_
  refine l1 (asgi rfl) ?_
  refine lnil ?_
  refine nthen ?_
  refine cseq ?_
  refine cseq ?_
  refine creg ?_
  refine l1 (mvi rfl) ?_
  refine l1 (eql rfl rfl) ?_
  refine lnil ?_
  refine nthen ?_
  refine ciff (bf rfl (decide_eq_false (by omega))) ?_
  refine cskip ?_
  refine nthen ?_
  refine cseq ?_
  refine cseq ?_
  refine creg ?_
  refine l1 (mvi rfl) ?_
  first | refine l1 (addn rfl rfl (ri (by omega) (by omega))) ?_ | refine l1 (add rfl rfl) ?_
  refine l1 (asgi rfl) ?_
  refine lnil ?_
  refine nthen ?_
  refine cblock ?_
  refine cloopI (σ := Nat × Nat × List Rw) (fun s => [(0, .slice (some ⟨g, 0, none⟩) n cap), (1, .func (.func f) #[] es.toArray), (5, .int .i64 (s.2.1 : Int)), (6, .int .i64 (s.1 : Int))]) (fun s => ([⟨g, s.2.2.flatMap encR ++ R, 79⟩] ++ (T))) (fun s => DelInv (fun r => !q r) (rowsL l n) s.1 s.2.1 s.2.2) (fun s => n - s.1) (k0 + 1, k0, (rowsL l n)) hI0 ⟨rfl, rfl, rfl, rfl, trivial⟩ (List.Sublist.refl _) ?_
  rintro ⟨k, i, P⟩ j hI
  show WC _ _ _ (⟨g, P.flatMap encR ++ R, 79⟩ :: (T)) _ _ (over j [(0, .slice (some ⟨g, 0, none⟩) n cap), (1, .func (.func f) #[] es.toArray), (5, .int .i64 (i : Int)), (6, .int .i64 (k : Int))])
  replace hI : DelInv (fun r => !q r) (rowsL l n) k i P := hI; have hLn : (rowsL l n).length = n := rowsL_len l n; have hP : P.length = n := (by rw [hI.len, hLn]); have hij := hI.ij; have hjn : k ≤ n := (by have := hI.jn; omega)
  refine cseq ?_
  refine cseq ?_
  refine creg ?_
  refine l1 (mvi rfl) ?_
  refine l1 (mvs rfl) ?_
  refine l1 (lens sl74 rfl rfl) ?_
  refine l1 (lss rfl rfl) ?_
  refine lnil ?_
  refine nthen ?_
  refine cif rfl (fun h1 => ?_) (fun h1 => ?_)
  · have hlt : k < n := by (have := dt h1; omega)
    refine cskip ?_
    refine nthen ?_
    refine cseq ?_
    refine cblock ?_
    refine cseq ?_
    refine creg ?_
    refine l1 (mvs rfl) ?_
    refine l1 (mvi rfl) ?_
    refine l1 (isp sl74 rfl rfl rfl (by omega) (by omega)) ?_
    refine l1 (lda 0 Try.isAgg79 Try.sizeOf79 rfl rfl (rows_read (j := k) (x := l k) (by omega) (by rw [hI.get (by omega), rowsL_d hlt])) rfl) ?_
    refine lal (zs := encR rz) Try.zeroValue79 rfl (fun b1 => ?_)
    refine wl_perm (ins_perm 1 _ _) ?_
    refine lstw 1 rfl rfl rfl Try.sizeOf79 rfl rfl rfl ?_
    refine lnil ?_
    refine nthen ?_
    refine cseq ?_
    refine creg ?_
    refine l1 (mvf rfl) ?_
    refine l1 (ldw 1 Try.isAgg79 Try.sizeOf79 rfl rfl rfl) ?_
    refine l1 (clc hf rfl (mc rfl mn) (fun w' hw => hq k hlt w' (hw.sub (List.Sublist.cons _ (List.Sublist.cons _ (List.Sublist.refl _)))))) ?_
    refine l1 (nt rfl) ?_
    refine lnil ?_
    refine nthen ?_
    refine cif rfl (fun h2 => ?_) (fun h2 => ?_)
    · skip
      refine cseq ?_
      refine creg ?_
      refine l1 (mvs rfl) ?_
      refine l1 (mvi rfl) ?_
      refine l1 (ldw 1 Try.isAgg79 Try.sizeOf79 rfl rfl rfl) ?_
      refine l1 (isp sl74 rfl rfl rfl (by omega) (by omega)) ?_
      refine lst 0 rfl rfl rfl rfl Try.sizeOf79 rfl (by rw [rows_len, encR_len]; omega) (encR_one (l k)) (rows_write (by omega)) ?_
      refine lnil ?_
      refine nthen ?_
      refine creg ?_
      refine l1 (mvi rfl) ?_
      first | refine l1 (addn rfl rfl (ri (by omega) (by omega))) ?_ | refine l1 (add rfl rfl) ?_
      refine l1 (asgi rfl) ?_
      refine lnil ?_
      refine nblkN ?_
      refine nthen ?_
      refine creg ?_
      refine l1 (mvi rfl) ?_
      first | refine l1 (addn rfl rfl (ri (by omega) (by omega))) ?_ | refine l1 (add rfl rfl) ?_
      refine l1 (asgi rfl) ?_
      refine lnil ?_
      first | exact nI (k + 1, i + 1, P.set i (l k)) (by have := hI.keep (by omega) (by rw [rowsL_d hlt]; exact h2); rwa [rowsL_d hlt] at this) (by show n - (k + 1) < n - k; omega) ⟨rfl, rfl, rfl, rfl, trivial⟩ (List.Sublist.cons_cons _ (List.Sublist.cons _ (List.Sublist.refl _))) | exact nI (k + 1, i, P) (hI.skip (by omega) (by rw [rowsL_d hlt]; exact h2)) (by show n - (k + 1) < n - k; omega) ⟨rfl, rfl, rfl, rfl, trivial⟩ (List.Sublist.cons_cons _ (List.Sublist.cons _ (List.Sublist.refl _)))
    · skip
      refine cskip ?_
      refine nblkN ?_
      refine nthen ?_
      refine creg ?_
      refine l1 (mvi rfl) ?_
      first | refine l1 (addn rfl rfl (ri (by omega) (by omega))) ?_ | refine l1 (add rfl rfl) ?_
      refine l1 (asgi rfl) ?_
      refine lnil ?_
      first | exact nI (k + 1, i + 1, P.set i (l k)) (by have := hI.keep (by omega) (by rw [rowsL_d hlt]; exact h2); rwa [rowsL_d hlt] at this) (by show n - (k + 1) < n - k; omega) ⟨rfl, rfl, rfl, rfl, trivial⟩ (List.Sublist.cons_cons _ (List.Sublist.cons _ (List.Sublist.refl _))) | exact nI (k + 1, i, P) (hI.skip (by omega) (by rw [rowsL_d hlt]; exact h2)) (by show n - (k + 1) < n - k; omega) ⟨rfl, rfl, rfl, rfl, trivial⟩ (List.Sublist.cons_cons _ (List.Sublist.cons _ (List.Sublist.refl _)))
  · have hje : k = n := by (have := df h1; omega)
    refine cexit ?_
    refine nthenE ?_
    refine nIE ?_
    refine nblkE ?_
    refine nthen ?_
    refine cseq ?_
    refine creg ?_
    refine l1 (mvs rfl) ?_
    refine l1 (mvi rfl) ?_
    refine l1 (sllo Try.underlying74 Try.sizeOf79 rfl rfl (by omega) (by omega)) ?_
    refine lclear 0 el74 rfl rfl (by omega) (zrows_is (n - i)) (zrows_len (n - i)) (zrows_one (n - i)) (by rw [zrows_len, rows_len]; omega) rfl ?_
    refine lnil ?_
    refine nthen ?_
    refine cseq ?_
    refine creg ?_
    refine l1 (mvs rfl) ?_
    refine l1 (mvi rfl) ?_
    refine l1 (slhi Try.underlying74 Try.sizeOf79 rfl rfl (by omega) (.inr ⟨g, 0, rfl⟩)) ?_
    refine l1 (asgs rfl) ?_
    refine lnil ?_
    refine nthen ?_
    refine cret ?_
    exact finS (.slice (some ⟨g, 0, none⟩) i cap) _ (rv1 rfl (rvt rfl)) ⟨_, List.Perm.refl _, List.Sublist.refl _⟩ ⟨_, rfl, by (have hd := hI.done' (by omega); rw [← hd.2, ← hd.1]; exact rows_cleared hP (by omega) hcap hcm hR)⟩

theorem delf_calls (w0 w : World) (T oe : List Ent) (v : Value) (n : Nat) (l : Nat → Rw) (hn : n ≤ 100) (hs : Sat w0 (oe ++ T) w) (ho : OwnL 79 130 v n ((rowsL l n).flatMap encR) oe) (f : FuncId) (es : List Value) (q : Rw → Bool) (hf : HasBody Try.prog f) (hq : ∀ i, i < n → ∀ w', Sat w0 T w' → Calls Try.prog f (.agg (encR (l i)).toArray :: es).toArray w' (Ret (.bool (q (l i))) w')) : Calls Try.prog 132 #[v, .func (.func f) #[] es.toArray] w (RetS w0 (fun v' H' => ∃ oe', H' = oe' ++ T ∧ OwnL 79 130 v' ((rowsL l n).filter (fun r => !q r)).length (((rowsL l n).filter (fun r => !q r)).flatMap encR) oe')) := by
  obtain ⟨p, c, rfl⟩ := ho.form
  rcases idx_case q l n with ⟨_, hno⟩ | ⟨k0, hx0, hk0, hq0, hb0⟩
  · exact delfn_calls w0 w T oe p n c l hn hs ho f es q hf hq hno
  · rcases ho.2 with ⟨_, h0, _⟩ | ⟨g, cap, cur, h1, rfl, hcap, hcm, hcl, hct⟩
    · omega
    · cases h1
      have hcur : cur = (rowsL l n).flatMap encR ++ cur.drop (n * 130) := by rw [← hct, List.take_append_drop]
      rw [hcur] at hs
      exact delfp_calls w0 w T g n c (cur.drop (n * 130)) l hn hs hcap hcm (by have : n * 130 ≤ c * 130 := Nat.mul_le_mul_right _ hcap; rw [List.length_drop, hcl]; omega) f es q hf hq k0 hk0 hx0 hq0 hb0

theorem cmpR_calls (a b : Rw) (w : World) : Calls Try.prog 136 #[.agg (encR a).toArray, .agg (encR b).toArray] w (Ret (.int .i64 (cmpH a.hd b.hd)) w) := by
  refine fn_calls (n := 10) Try.func136 rfl rfl (lb rfl) ?_
  refine cseq ?_
  refine creg ?_
  refine lbxa rfl (fun b1 => ?_)
  refine lbxa rfl (fun b2 => ?_)
  refine l1 (asgi rfl) ?_
  refine lnil ?_
  refine nthen ?_
  refine cseq ?_
  refine creg ?_
  refine l1 (fa fa79_0 rfl) ?_
  refine l1 (lda 0 Try.isAgg37 Try.sizeOf37 rfl rfl (encR_hd _) rfl) ?_
  refine l1 (fa fa79_0 rfl) ?_
  refine l1 (lda 1 Try.isAgg37 Try.sizeOf37 rfl rfl (encR_hd _) rfl) ?_
  refine l1 (cl hb69 rfl (mc rfl (mc rfl mn)) (fun w hw => compare_calls _ _ w)) ?_
  refine l1 (asgi rfl) ?_
  refine lnil ?_
  refine nthen ?_
  refine cret ?_
  exact fin1 rfl rfl

set_option maxHeartbeats 1000000 in
theorem maxf_calls (w : World) (p : Option Addr) (c : Nat) (L : List Rw) (hn : (L.length : Int) ≤ 9223372036854775807) (h0 : 0 < L.length) (hl : Sl w p L.length 130 (fun i => encR (L.getD i rz))) : Calls Try.prog 135 #[.slice p L.length c, .func (.func 136) #[] #[]] w (Ret (.agg (encR (maxT L (L.length - 1))).toArray) w) := by
  refine fn_calls (n := 33) Try.func135 rfl rfl (lb rfl) ?_
  obtain ⟨b, o, rfl, hbl, hm⟩ := hl.at h0
  refine cseq ?_
  refine creg ?_
  refine lal (zs := encR rz) Try.zeroValue79 rfl (fun b1 => ?_)
  refine lnil ?_
  refine nthen ?_
  refine cseq ?_
  refine cseq ?_
  refine creg ?_
  refine l1 (mvs rfl) ?_
  refine l1 (lens sl74 rfl rfl) ?_
  refine l1 (lss rfl rfl) ?_
  refine lnil ?_
  refine nthen ?_
  refine ciff (bf rfl (decide_eq_false (by omega))) ?_
  refine cskip ?_
  refine nthen ?_
  refine cseq ?_
  refine creg ?_
  refine l1 (mvs rfl) ?_
  refine l1 (isp sl74 rfl rfl rfl (by omega) (by omega)) ?_
  refine l1 (ldam (vs := encR (L.getD (0) rz)) Try.isAgg79 Try.sizeOf79 rfl rfl (fun w' hw => by rw [show ((0 : Int)).toNat = (0) from by omega]; exact (hm (0) (by omega)).kept hw.below hbl)) ?_
  refine lal (zs := encR rz) Try.zeroValue79 rfl (fun b2 => ?_)
  refine lstw (cs := encR (maxT L 0)) 1 rfl rfl rfl Try.sizeOf79 rfl rfl rfl ?_
  refine lnil ?_
  refine nthen ?_
  refine cseq ?_
  refine cseq ?_
  refine creg ?_
  refine l1 (asgi rfl) ?_
  refine lnil ?_
  refine nthen ?_
  refine cblock ?_
  refine cloopI (σ := Nat) (fun s => [(0, .slice (some ⟨b, o, none⟩) L.length c), (1, .func (.func 136) #[] #[]), (4, .pointer (some ⟨b1, 0, none⟩)), (5, .pointer (some ⟨b2, 0, none⟩)), (6, .int .i64 ((s : Int) + 1))]) (fun s => [⟨b1, encR rz, 79⟩, ⟨b2, encR (maxT L s), 79⟩]) (fun s => s < L.length) (fun s => L.length - s) 0 (by omega) ⟨rfl, rfl, rfl, rfl, rfl, trivial⟩ (List.Sublist.refl _) ?_
  rintro i j hi
  show WC _ _ _ ([⟨b1, encR rz, 79⟩, ⟨b2, encR (maxT L i), 79⟩]) _ _ (over j [(0, .slice (some ⟨b, o, none⟩) L.length c), (1, .func (.func 136) #[] #[]), (4, .pointer (some ⟨b1, 0, none⟩)), (5, .pointer (some ⟨b2, 0, none⟩)), (6, .int .i64 ((i : Int) + 1))])
  replace hi : i < L.length := hi
  refine cseq ?_
  refine cseq ?_
  refine creg ?_
  refine l1 (mvi rfl) ?_
  refine l1 (mvs rfl) ?_
  refine l1 (lens sl74 rfl rfl) ?_
  refine l1 (lss rfl rfl) ?_
  refine lnil ?_
  refine nthen ?_
  refine cif rfl (fun h1 => ?_) (fun h1 => ?_)
  · have hlt : i + 1 < L.length := by (have := dt h1; omega)
    refine cskip ?_
    refine nthen ?_
    refine cseq ?_
    refine cblock ?_
    refine cseq ?_
    refine cregq mo (by kernel_rfl) ?_
    refine q1 (mvf rfl) ?_
    refine q1 (mvs rfl) ?_
    refine q1 (mvi rfl) ?_
    refine q1 (isp sl74 rfl rfl rfl (by omega) (by omega)) ?_
    refine q1 (ldam (vs := encR (L.getD (i + 1) rz)) Try.isAgg79 Try.sizeOf79 rfl rfl (fun w' hw => by rw [show ((i : Int) + 1).toNat = (i + 1) from by omega]; exact (hm (i + 1) (by omega)).kept hw.below hbl)) ?_
    refine q1 (ldw 1 Try.isAgg79 Try.sizeOf79 rfl rfl rfl) ?_
    refine q1 (cl hb136 rfl (mc rfl (mc rfl mn)) (fun w hw => cmpR_calls _ _ w)) ?_
    refine q1 (gtr rfl rfl) ?_
    refine qnil ?_
    refine nthen ?_
    refine cif rfl (fun h2 => ?_) (fun h2 => ?_)
    · skip
      refine creg ?_
      refine l1 (mvs rfl) ?_
      refine l1 (mvi rfl) ?_
      refine l1 (isp sl74 rfl rfl rfl (by omega) (by omega)) ?_
      refine l1 (ldam (vs := encR (L.getD (i + 1) rz)) Try.isAgg79 Try.sizeOf79 rfl rfl (fun w' hw => by rw [show ((i : Int) + 1).toNat = (i + 1) from by omega]; exact (hm (i + 1) (by omega)).kept hw.below hbl)) ?_
      refine lstw 1 rfl rfl rfl Try.sizeOf79 rfl rfl rfl ?_
      refine lnil ?_
      refine nblkN ?_
      refine nthen ?_
      refine creg ?_
      refine l1 (mvi rfl) ?_
      first | refine l1 (addn rfl rfl (ri (by omega) (by omega))) ?_ | refine l1 (add rfl rfl) ?_
      refine l1 (asgi rfl) ?_
      refine lnil ?_
      first | exact nI (i + 1) (by show i + 1 < L.length; omega) (by show L.length - (i + 1) < L.length - i; omega) ⟨rfl, rfl, rfl, rfl, rfl, trivial⟩ (by rw [maxT_t hlt h2]; exact List.Sublist.refl _) | exact nI (i + 1) (by show i + 1 < L.length; omega) (by show L.length - (i + 1) < L.length - i; omega) ⟨rfl, rfl, rfl, rfl, rfl, trivial⟩ (by rw [maxT_f hlt h2]; exact List.Sublist.refl _)
    · skip
      refine cskip ?_
      refine nblkN ?_
      refine nthen ?_
      refine creg ?_
      refine l1 (mvi rfl) ?_
      first | refine l1 (addn rfl rfl (ri (by omega) (by omega))) ?_ | refine l1 (add rfl rfl) ?_
      refine l1 (asgi rfl) ?_
      refine lnil ?_
      first | exact nI (i + 1) (by show i + 1 < L.length; omega) (by show L.length - (i + 1) < L.length - i; omega) ⟨rfl, rfl, rfl, rfl, rfl, trivial⟩ (by rw [maxT_t hlt h2]; exact List.Sublist.refl _) | exact nI (i + 1) (by show i + 1 < L.length; omega) (by show L.length - (i + 1) < L.length - i; omega) ⟨rfl, rfl, rfl, rfl, rfl, trivial⟩ (by rw [maxT_f hlt h2]; exact List.Sublist.refl _)
  · have hall : i = L.length - 1 := by (have := df h1; omega)
    subst hall
    refine cexit ?_
    refine nthenE ?_
    refine nIE ?_
    refine nblkE ?_
    refine nthen ?_
    refine cseq ?_
    refine creg ?_
    refine l1 (ldw 1 Try.isAgg79 Try.sizeOf79 rfl rfl rfl) ?_
    refine lstw 0 rfl rfl rfl Try.sizeOf79 rfl rfl rfl ?_
    refine lnil ?_
    refine nthen ?_
    refine cret ?_
    exact finc 0 rfl Try.isAgg79 Try.sizeOf79 rfl rfl rfl rfl

theorem lat_none {q : Rw → Bool} {L : List Rw} (h : decide (((L.filter q).length : Int) = 0) = true) : latR q L = (rz, false) := by unfold latR; rw [h]; rfl
theorem lat_some {q : Rw → Bool} {L : List Rw} (h : decide (((L.filter q).length : Int) = 0) = false) : latR q L = (maxT (L.filter q) ((L.filter q).length - 1), true) := by unfold latR; rw [h]; rfl

set_option maxHeartbeats 1000000 in
theorem latest_calls (w : World) (p : Option Addr) (n c : Nat) (l : Nat → Rw) (hn : n ≤ 100) (hl : Sl w p n 130 (fun i => encR (l i))) (k : FuncId) (q : Rw → Bool) (hk : HasBody Try.prog k) (hq : ∀ i, i < n → PredC w k [] q (l i)) : Calls Try.prog 114 #[.slice p n c, .func (.func k) #[] #[]] w (Ret (.tuple #[.agg (encR (latR q (rowsL l n)).1).toArray, .bool (latR q (rowsL l n)).2]) w) := by
  refine fn_calls (n := 16) Try.func114 rfl rfl (lb rfl) ?_
  refine cseq ?_
  refine creg ?_
  refine lbxf rfl (fun b1 => ?_)
  refine lal (zs := encR rz) Try.zeroValue79 rfl (fun b2 => ?_)
  refine l1 (asgb rfl) ?_
  refine lnil ?_
  refine nthen ?_
  refine cseq ?_
  refine creg ?_
  refine l1 (mvs rfl) ?_
  refine lclm hb133 rfl (mc rfl mn) (fun w' hw => clr_calls w' _ _ _ l hn (Sl.keptS hl hw)) ?_
  rintro v7 Hn ho
  replace ho : OwnL 79 130 v7 n ((rowsL l n).flatMap encR) Hn := by rw [rowsL_flat]; exact ho
  refine l1 (mkf1 rfl) ?_
  refine lcls (Hn ++ [⟨b1, [.func (.func k) #[] #[]], 81⟩, ⟨b2, encR rz, 79⟩]) hb132 rfl (mc rfl (mc rfl mn)) (fun w' hw => delf_calls w w' [⟨b1, [.func (.func k) #[] #[]], 81⟩, ⟨b2, encR rz, 79⟩] Hn v7 n l hn hw ho 134 [.pointer (some ⟨b1, 0, none⟩)] (fun r => !q r) hb134 (fun i hi w'' hw'' => nota_calls (l i) w'' k q b1 hk (fun w3 H h3 => hq i hi w3 _ (hw''.join h3)) (hw''.lt (e := ⟨b1, [.func (.func k) #[] #[]], 81⟩) (by simp)) (hw''.cell (i := 0) (e := ⟨b1, [.func (.func k) #[] #[]], 81⟩) rfl rfl))) ⟨_, List.perm_append_comm, List.Sublist.refl _⟩ ?_
  rintro v9 H9 ⟨oe, rfl, ho9⟩
  simp only [Bool.not_not] at ho9
  replace ho9 : OwnL 79 130 v9 ((rowsL l n).filter q).length (((rowsL l n).filter q).flatMap encR) oe := ho9
  obtain ⟨p9, c9, rfl⟩ := ho9.form
  refine wl_perm List.perm_append_comm ?_
  refine l1 (asgs rfl) ?_
  refine lnil ?_
  refine nthen ?_
  refine cseq ?_
  refine cseq ?_
  refine creg ?_
  refine l1 (mvs rfl) ?_
  refine l1 (lens sl74 rfl rfl) ?_
  refine l1 (eql rfl rfl) ?_
  refine lnil ?_
  refine nthen ?_
  refine cif rfl (fun h1 => ?_) (fun h1 => ?_)
  · rw [lat_none h1]
    refine cseq ?_
    refine creg ?_
    refine l1 (bld0 bk79z) ?_
    refine lstw 1 rfl rfl rfl Try.sizeOf79 rfl rfl rfl ?_
    refine l1 (asgb rfl) ?_
    refine lnil ?_
    refine nthen ?_
    refine cret ?_
    refine nthenR ?_
    exact fin (rv2 rfl (rvc 1 Try.isAgg79 Try.sizeOf79 rfl rfl rfl rfl) (rvt rfl))
  · rw [lat_some h1]
    have hle : ((rowsL l n).filter q).length ≤ n := (by have := List.length_filter_le q (rowsL l n); rwa [rowsL_len] at this)
    have hpos : 0 < ((rowsL l n).filter q).length := (by have := df h1; omega)
    refine cskip ?_
    refine nthen ?_
    refine cseq ?_
    refine creg ?_
    refine l1 (mvs rfl) ?_
    refine l1 (cl (v := .agg (encR (maxT ((rowsL l n).filter q) (((rowsL l n).filter q).length - 1))).toArray) hb135 rfl (mc rfl (mc rfl mn)) (fun w' hw => maxf_calls w' p9 c9 ((rowsL l n).filter q) (by omega) hpos (SlIn.sl (ho9.slInL (fun a => rfl) (fun i hi => ⟨_, List.getElem?_eq_getElem hi, by rw [List.getD_eq_getElem?_getD, List.getElem?_eq_getElem hi]; rfl⟩)) (hw.sub (List.Sublist.cons _ (List.Sublist.cons _ (List.Sublist.refl _))))))) ?_
    refine lstw 1 rfl rfl rfl Try.sizeOf79 rfl rfl rfl ?_
    refine l1 (asgb rfl) ?_
    refine lnil ?_
    refine nthen ?_
    refine cret ?_
    exact fin (rv2 rfl (rvc 1 Try.isAgg79 Try.sizeOf79 rfl rfl rfl rfl) (rvt rfl))
end Go.Proofs.Ytkdbjhlkahkobaa
