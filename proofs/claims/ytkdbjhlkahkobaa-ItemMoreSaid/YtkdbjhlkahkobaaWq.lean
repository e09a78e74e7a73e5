/- walks, printed by a program of ours -/
import Derived.Test.YtkdbjhlkahkobaaTy
import Derived.Test.YtkdbjhlkahkobaaDef
import Derived.Test.YtkdbjhlkahkobaaOrd2
namespace Go.Proofs.Ytkdbjhlkahkobaa
open Jal Go.RowKit
set_option maxRecDepth 100000
theorem bs35 : ∀ w : World, (Instr.buildSlice 35 0 #[]).run Try.prog w = .ok (.slice (some ⟨w.heap.size, 0, none⟩) 0 0) (w.alloc (.cells [].toArray 34)) := fun w => by kernel_rfl

theorem mul16 {n : Nat} (h : n ≤ 20) : (0 + n) * 16 ≤ 140737488355328 := by omega

theorem clonep_calls (w : World) (p : Option Addr) (n c : Nat) (t : Nat → Nat → Int) (hn : n ≤ 20) (hl : Sl w p n 16 (fun i => arr .u8 16 (t i))) (hpos : 0 < n) : Calls Try.prog 82 #[.slice p n c] w (RetM (fun v Hn => ∃ p' c', v = .slice p' n c' ∧ SlIn Hn p' n 16 (fun i => arr .u8 16 (t i))) w) := by
  refine fn_calls (n := 8) Try.func82 rfl rfl (lb rfl) ?_
  obtain ⟨b, o, rfl, hbl, hm⟩ := hl.at hpos
  refine cseq ?_
  refine creg ?_
  refine l1 (asgs rfl) ?_
  refine lnil ?_
  refine nthen ?_
  refine cseq ?_
  refine cseq ?_
  refine creg ?_
  refine l1 (mvs rfl) ?_
  refine l1 (eqnil sl35 rfl rfl) ?_
  refine lnil ?_
  refine nthen ?_
  refine ciff rfl ?_
  refine cskip ?_
  refine nthen ?_
  refine cseq ?_
  refine creg ?_
  refine lbs Try.underlying35 rfl (bs35) (fun b1 => ?_)
  refine l1 (mvs rfl) ?_
  refine lapp [] [] [⟨b1, [], 34⟩] (xs := []) el35 rfl rfl ⟨rfl, .inr ⟨b1, 0, [], rfl, rfl, Nat.le_refl _, by decide, rfl, rfl⟩⟩ rfl (news := (List.range n).flatMap (fun i => arr .u8 16 (t i))) (by rw [flatM_len (sz := 16) (fun a => by simp [arr]), List.length_range]) (fun w' hw => (mem_flat (by decide) (fun i => by simp [arr]) (fun i hi => (hm i hi).kept hw.below hbl))) (fun u hu => by obtain ⟨i, _, hi⟩ := List.mem_flatMap.1 hu; exact oneA (vs := arr .u8 16 (t i)) (by simp [arr, List.all_map, Value.oneCell']) u hi) hpos (by unfold maxLen; omega) (by omega) ?_
  intro g cap oe hown0
  have hown : OwnL 34 16 (.slice (some ⟨g, 0, none⟩) n cap) n ((List.range n).flatMap (fun i => arr .u8 16 (t i))) oe := by simpa using hown0
  refine l1 (asgs rfl) ?_
  refine lnil ?_
  refine nthen ?_
  refine cret ?_
  exact finM (.slice (some ⟨g, 0, none⟩) (0 + n) cap) oe (rv1 rfl (rvt rfl)) ⟨oe, List.Perm.refl _, by simp⟩ ⟨some ⟨g, 0, none⟩, cap, by rw [Nat.zero_add], hown.slInL (fun a => by simp [arr]) (fun i hi => ⟨i, List.getElem?_range hi, rfl⟩)⟩

theorem clonen_calls (w : World) (c : Nat) (t : Nat → Nat → Int) : Calls Try.prog 82 #[.slice none 0 c] w (RetM (fun v Hn => ∃ p' c', v = .slice p' 0 c' ∧ SlIn Hn p' 0 16 (fun i => arr .u8 16 (t i))) w) := by
  refine fn_calls (n := 8) Try.func82 rfl rfl (lb rfl) ?_
  refine cseq ?_
  refine creg ?_
  refine l1 (asgs rfl) ?_
  refine lnil ?_
  refine nthen ?_
  refine cseq ?_
  refine cseq ?_
  refine creg ?_
  refine l1 (mvs rfl) ?_
  refine l1 (eqnil sl35 rfl rfl) ?_
  refine lnil ?_
  refine nthen ?_
  refine cift rfl ?_
  refine cseq ?_
  refine creg ?_
  refine l1 (asgs rfl) ?_
  refine lnil ?_
  refine nthen ?_
  refine cret ?_
  refine nthenR ?_
  exact finM _ [] (rv1 rfl (rvt rfl)) ⟨[], List.Perm.refl _, List.nil_sublist _⟩ ⟨none, 0, rfl, .inl rfl⟩

theorem clone0_calls (w : World) (a : Addr) (c : Nat) (t : Nat → Nat → Int) : Calls Try.prog 82 #[.slice (some a) 0 c] w (RetM (fun v Hn => ∃ p' c', v = .slice p' 0 c' ∧ SlIn Hn p' 0 16 (fun i => arr .u8 16 (t i))) w) := by
  refine fn_calls (n := 8) Try.func82 rfl rfl (lb rfl) ?_
  refine cseq ?_
  refine creg ?_
  refine l1 (asgs rfl) ?_
  refine lnil ?_
  refine nthen ?_
  refine cseq ?_
  refine cseq ?_
  refine creg ?_
  refine l1 (mvs rfl) ?_
  refine l1 (eqnil sl35 rfl rfl) ?_
  refine lnil ?_
  refine nthen ?_
  refine ciff rfl ?_
  refine cskip ?_
  refine nthen ?_
  refine cseq ?_
  refine creg ?_
  refine lbs Try.underlying35 rfl (bs35) (fun b1 => ?_)
  refine l1 (mvs rfl) ?_
  refine l1 (lapp0 el35 rfl (Nat.le_refl _) rfl) ?_
  refine l1 (asgs rfl) ?_
  refine lnil ?_
  refine nthen ?_
  refine cret ?_
  exact finM _ [] (rv1 rfl (rvt rfl)) ⟨[], List.Perm.refl _, List.nil_sublist _⟩ ⟨_, _, rfl, .inl rfl⟩

theorem clone_calls (w : World) (p : Option Addr) (n c : Nat) (t : Nat → Nat → Int) (hn : n ≤ 20) (hl : Sl w p n 16 (fun i => arr .u8 16 (t i))) : Calls Try.prog 82 #[.slice p n c] w (RetM (fun v Hn => ∃ p' c', v = .slice p' n c' ∧ SlIn Hn p' n 16 (fun i => arr .u8 16 (t i))) w) := by
  rcases Nat.eq_zero_or_pos n with h | h
  · subst h
    cases p with
    | none => exact clonen_calls w c t
    | some a => exact clone0_calls w a c t
  · exact clonep_calls w p n c t hn hl h

set_option maxHeartbeats 1000000 in
theorem minf_calls (w : World) (p : Option Addr) (c : Nat) (L : List Hd) (hn : (L.length : Int) ≤ 9223372036854775807) (h0 : 0 < L.length) (hl : Sl w p L.length 125 (fun i => encH (L.getD i hz))) : Calls Try.prog 80 #[.slice p L.length c, .func (.func 81) #[] #[]] w (Ret (.agg (encH (minT L (L.length - 1))).toArray) w) := by
  refine fn_calls (n := 33) Try.func80 rfl rfl (lb rfl) ?_
  obtain ⟨b, o, rfl, hbl, hm⟩ := hl.at h0
  refine cseq ?_
  refine creg ?_
  refine lal (zs := encH hz) Try.zeroValue37 rfl (fun b1 => ?_)
  refine lnil ?_
  refine nthen ?_
  refine cseq ?_
  refine cseq ?_
  refine creg ?_
  refine l1 (mvs rfl) ?_
  refine l1 (lens sl54 rfl rfl) ?_
  refine l1 (lss rfl rfl) ?_
  refine lnil ?_
  refine nthen ?_
  refine ciff (bf rfl (decide_eq_false (by omega))) ?_
  refine cskip ?_
  refine nthen ?_
  refine cseq ?_
  refine creg ?_
  refine l1 (mvs rfl) ?_
  refine l1 (isp sl54 rfl rfl rfl (by omega) (by omega)) ?_
  refine l1 (ldam (vs := encH (L.getD (0) hz)) Try.isAgg37 Try.sizeOf37 rfl rfl (fun w' hw => by rw [show ((0 : Int)).toNat = (0) from by omega]; exact (hm (0) (by omega)).kept hw.below hbl)) ?_
  refine lal (zs := encH hz) Try.zeroValue37 rfl (fun b2 => ?_)
  refine lstw (cs := encH (minT L 0)) 1 rfl rfl rfl Try.sizeOf37 rfl rfl rfl ?_
  refine lnil ?_
  refine nthen ?_
  refine cseq ?_
  refine cseq ?_
  refine creg ?_
  refine l1 (asgi rfl) ?_
  refine lnil ?_
  refine nthen ?_
  refine cblock ?_
  refine cloopI (σ := Nat) (fun s => [(0, .slice (some ⟨b, o, none⟩) L.length c), (1, .func (.func 81) #[] #[]), (4, .pointer (some ⟨b1, 0, none⟩)), (5, .pointer (some ⟨b2, 0, none⟩)), (6, .int .i64 ((s : Int) + 1))]) (fun s => [⟨b1, encH hz, 37⟩, ⟨b2, encH (minT L s), 37⟩]) (fun s => s < L.length) (fun s => L.length - s) 0 (by omega) ⟨rfl, rfl, rfl, rfl, rfl, trivial⟩ (List.Sublist.refl _) ?_
  rintro i j hi
  show WC _ _ _ ([⟨b1, encH hz, 37⟩, ⟨b2, encH (minT L i), 37⟩]) _ _ (over j [(0, .slice (some ⟨b, o, none⟩) L.length c), (1, .func (.func 81) #[] #[]), (4, .pointer (some ⟨b1, 0, none⟩)), (5, .pointer (some ⟨b2, 0, none⟩)), (6, .int .i64 ((i : Int) + 1))])
  replace hi : i < L.length := hi
  refine cseq ?_
  refine cseq ?_
  refine creg ?_
  refine l1 (mvi rfl) ?_
  refine l1 (mvs rfl) ?_
  refine l1 (lens sl54 rfl rfl) ?_
  refine l1 (lss rfl rfl) ?_
  refine lnil ?_
  refine nthen ?_
  refine cif rfl (fun h1 => ?_) (fun h1 => ?_)
  · have hlt : i + 1 < L.length := by (have := dt h1; omega)
    refine cskip ?_
    refine nthen ?_
    refine cseq ?_
    refine cblock ?_
    refine cseq ?_
    refine cregq mo (by kernel_rfl) ?_
    refine q1 (mvf rfl) ?_
    refine q1 (mvs rfl) ?_
    refine q1 (mvi rfl) ?_
    refine q1 (isp sl54 rfl rfl rfl (by omega) (by omega)) ?_
    refine q1 (ldam (vs := encH (L.getD (i + 1) hz)) Try.isAgg37 Try.sizeOf37 rfl rfl (fun w' hw => by rw [show ((i : Int) + 1).toNat = (i + 1) from by omega]; exact (hm (i + 1) (by omega)).kept hw.below hbl)) ?_
    refine q1 (ldw 1 Try.isAgg37 Try.sizeOf37 rfl rfl rfl) ?_
    refine q1 (cl hb81 rfl (mc rfl (mc rfl mn)) (fun w hw => first_calls _ _ w)) ?_
    refine q1 (lss rfl rfl) ?_
    refine qnil ?_
    refine nthen ?_
    refine cif rfl (fun h2 => ?_) (fun h2 => ?_)
    · skip
      refine creg ?_
      refine l1 (mvs rfl) ?_
      refine l1 (mvi rfl) ?_
      refine l1 (isp sl54 rfl rfl rfl (by omega) (by omega)) ?_
      refine l1 (ldam (vs := encH (L.getD (i + 1) hz)) Try.isAgg37 Try.sizeOf37 rfl rfl (fun w' hw => by rw [show ((i : Int) + 1).toNat = (i + 1) from by omega]; exact (hm (i + 1) (by omega)).kept hw.below hbl)) ?_
      refine lstw 1 rfl rfl rfl Try.sizeOf37 rfl rfl rfl ?_
      refine lnil ?_
      refine nblkN ?_
      refine nthen ?_
      refine creg ?_
      refine l1 (mvi rfl) ?_
      first | refine l1 (addn rfl rfl (ri (by omega) (by omega))) ?_ | refine l1 (add rfl rfl) ?_
      refine l1 (asgi rfl) ?_
      refine lnil ?_
      first | exact nI (i + 1) (by show i + 1 < L.length; omega) (by show L.length - (i + 1) < L.length - i; omega) ⟨rfl, rfl, rfl, rfl, rfl, trivial⟩ (by rw [minT_t hlt h2]; exact List.Sublist.refl _) | exact nI (i + 1) (by show i + 1 < L.length; omega) (by show L.length - (i + 1) < L.length - i; omega) ⟨rfl, rfl, rfl, rfl, rfl, trivial⟩ (by rw [minT_f hlt h2]; exact List.Sublist.refl _)
    · skip
      refine cskip ?_
      refine nblkN ?_
      refine nthen ?_
      refine creg ?_
      refine l1 (mvi rfl) ?_
      first | refine l1 (addn rfl rfl (ri (by omega) (by omega))) ?_ | refine l1 (add rfl rfl) ?_
      refine l1 (asgi rfl) ?_
      refine lnil ?_
      first | exact nI (i + 1) (by show i + 1 < L.length; omega) (by show L.length - (i + 1) < L.length - i; omega) ⟨rfl, rfl, rfl, rfl, rfl, trivial⟩ (by rw [minT_t hlt h2]; exact List.Sublist.refl _) | exact nI (i + 1) (by show i + 1 < L.length; omega) (by show L.length - (i + 1) < L.length - i; omega) ⟨rfl, rfl, rfl, rfl, rfl, trivial⟩ (by rw [minT_f hlt h2]; exact List.Sublist.refl _)
  · have hall : i = L.length - 1 := by (have := df h1; omega)
    subst hall
    refine cexit ?_
    refine nthenE ?_
    refine nIE ?_
    refine nblkE ?_
    refine nthen ?_
    refine cseq ?_
    refine creg ?_
    refine l1 (ldw 1 Try.isAgg37 Try.sizeOf37 rfl rfl rfl) ?_
    refine lstw 0 rfl rfl rfl Try.sizeOf37 rfl rfl rfl ?_
    refine lnil ?_
    refine nthen ?_
    refine cret ?_
    exact finc 0 rfl Try.isAgg37 Try.sizeOf37 rfl rfl rfl rfl

theorem rdy_all (l : Nat → Hd) (v : Vec) (n : Nat) : ((List.range n).map l).filter (readyH v) = rdyL l v n := rfl
theorem formed_tn {h : Hd} (hf : formedH h = true) : h.tn ≤ 8 := by
  unfold formedH at hf
  cases hp : placedB h with
  | false => rw [hp] at hf; simp at hf
  | true =>
    rw [hp] at hf
    by_cases ht : (h.tn : Int) > 8
    · rw [decide_eq_true ht] at hf; simp at hf
    · omega

set_option maxHeartbeats 1000000 in
theorem order_calls (w : World) (v : Vec) (p : Option Addr) (n c : Nat) (l : Nat → Hd) (hn : n ≤ 40) (hl : Sl w p n 125 (fun i => encH (l i))) (hx : ∀ i, i < n → HdIn w (l i)) (kx : ∀ i, i < n → HdOk (l i)) : Calls Try.prog 45 #[.agg (encV v).toArray, .slice p n c] w (RetM (OrdR ((List.range n).map l) v) w) := by
  refine fn_calls (n := 46) Try.func45 rfl rfl (lb rfl) ?_
  refine cseq ?_
  refine creg ?_
  refine lbxa rfl (fun b1 => ?_)
  refine l1 (asg rfl) ?_
  refine lal (zs := encV (fun _ => 0)) Try.zeroValue24 rfl (fun b2 => ?_)
  refine lnil ?_
  refine nthen ?_
  refine cseq ?_
  refine creg ?_
  refine l1 (asg rfl) ?_
  refine lnil ?_
  refine nthen ?_
  refine cblock ?_
  refine cloopI (σ := OrdS) (fun s => [(1, .slice p n c), (2, .pointer (some ⟨b1, 0, none⟩)), (5, .pointer (some ⟨b2, 0, none⟩)), (6, s.ov)]) (fun s => ([⟨b1, encV s.v, 24⟩, ⟨b2, encV (fun _ => 0), 24⟩] ++ (s.oe ++ s.tl))) (fun s => OrdOk ((List.range n).map l) v s) (fun s => ((List.range n).map l).countP (laterV s.v)) ⟨v, [], .slice none 0 0, [], []⟩ (ordOk0 _ v) ⟨rfl, rfl, rfl, rfl, trivial⟩ (List.Sublist.refl _) ?_
  rintro S j hS
  show WC _ _ _ (⟨b1, encV S.v, 24⟩ :: ⟨b2, encV (fun _ => 0), 24⟩ :: (S.oe ++ S.tl)) _ _ (over j [(1, .slice p n c), (2, .pointer (some ⟨b1, 0, none⟩)), (5, .pointer (some ⟨b2, 0, none⟩)), (6, S.ov)])
  replace hS : OrdOk ((List.range n).map l) v S := hS
  refine cblock ?_
  refine cseq ?_
  refine creg ?_
  refine l1 (asgs rfl) ?_
  refine lnil ?_
  refine nthen ?_
  refine cseq ?_
  refine cseq ?_
  refine creg ?_
  refine l1 (mvs rfl) ?_
  refine l1 (lens sl54 rfl rfl) ?_
  refine l1 (mvi rfl) ?_
  refine lnil ?_
  refine nthen ?_
  refine cblock ?_
  refine cloopI (σ := Nat × Value × List Ent) (fun s => [(1, .slice p n c), (2, .pointer (some ⟨b1, 0, none⟩)), (5, .pointer (some ⟨b2, 0, none⟩)), (6, S.ov), (7, s.2.1), (11, .slice p n c), (12, .int .i64 (n : Int)), (13, .int .i64 (s.1 : Int))]) (fun s => ([⟨b1, encV S.v, 24⟩, ⟨b2, encV (fun _ => 0), 24⟩] ++ (s.2.2 ++ (S.oe ++ S.tl)))) (fun s => s.1 ≤ n ∧ OwnL 37 125 s.2.1 (rdyL l S.v s.1).length ((rdyL l S.v s.1).flatMap encH) s.2.2) (fun s => n - s.1) (0, .slice none 0 0, []) ⟨Nat.zero_le _, OwnL.nil 37 125⟩ ⟨rfl, rfl, rfl, rfl, rfl, rfl, rfl, rfl, trivial⟩ (List.Sublist.refl _) ?_
  rintro ⟨i, rv, re⟩ j ⟨hi, hown⟩; replace hi : i ≤ n := hi; replace hown : OwnL 37 125 rv (rdyL l S.v i).length ((rdyL l S.v i).flatMap encH) re := hown; obtain ⟨rp, rc, rfl⟩ := hown.form
  show WC _ _ _ (⟨b1, encV S.v, 24⟩ :: ⟨b2, encV (fun _ => 0), 24⟩ :: (re ++ (S.oe ++ S.tl))) _ _ (over j [(1, .slice p n c), (2, .pointer (some ⟨b1, 0, none⟩)), (5, .pointer (some ⟨b2, 0, none⟩)), (6, S.ov), (7, .slice rp (rdyL l S.v i).length rc), (11, .slice p n c), (12, .int .i64 (n : Int)), (13, .int .i64 (i : Int))])
  skip
  refine cseq ?_
  refine creg ?_
  refine l1 (lss rfl rfl) ?_
  refine lnil ?_
  refine nthen ?_
  refine cseq ?_
  refine cif rfl (fun h1 => ?_) (fun h1 => ?_)
  · have hlt : i < n := by (have := dt h1; omega)
    obtain ⟨b, o, hp, hbl, hm⟩ := hl.at hlt
    refine cskip ?_
    refine nthen ?_
    refine cseq ?_
    refine cblock ?_
    refine cseq ?_
    refine creg ?_
    refine l1 (isp sl54 hp rfl rfl (by omega) (by omega)) ?_
    refine l1 (ldam (vs := encH (l i)) Try.isAgg37 Try.sizeOf37 rfl rfl (fun w' hw => (hm i hlt).kept hw.below hbl)) ?_
    refine lal (zs := encH hz) Try.zeroValue37 rfl (fun b3 => ?_)
    refine wl_perm (ins_perm 2 _ _) ?_
    refine lstw 2 rfl rfl rfl Try.sizeOf37 rfl rfl rfl ?_
    refine lnil ?_
    refine nthen ?_
    refine cseq ?_
    refine creg ?_
    refine l1 (ldw 0 Try.isAgg24 Try.sizeOf24 rfl rfl rfl) ?_
    refine l1 (ldw 2 Try.isAgg37 Try.sizeOf37 rfl rfl rfl) ?_
    refine l1 (cl hb38 rfl (mc rfl (mc rfl mn)) (fun w hw => ready_calls _ _ w (Sl.keptS (hx i hlt) hw) (kx i hlt))) ?_
    refine lnil ?_
    refine nthen ?_
    refine cif rfl (fun h2 => ?_) (fun h2 => ?_)
    · skip
      refine creg ?_
      refine l1 (mvs rfl) ?_
      refine l1 (ldw 2 Try.isAgg37 Try.sizeOf37 rfl rfl rfl) ?_
      refine lbs Try.underlying54 rfl (bs54 _) (fun b4 => ?_)
      refine wl_perm (ins_perm 3 _ _) ?_
      refine lapp [_, _, _, _] (S.oe ++ S.tl) re el54 rfl rfl hown rfl (news := encH (l i)) rfl (fun w' hw => by have := hw.mem (i := 3) rfl 0; simpa using this) (encH_one _) (by decide) (by have := rdyL_len l S.v i; unfold maxLen; omega) (by have := rdyL_len l S.v i; omega) ?_
      intro g cap re' hown1
      refine l1 (asgs rfl) ?_
      refine lnil ?_
      refine nblkN ?_
      refine nthen ?_
      refine creg ?_
      first | refine l1 (addn rfl rfl (ri (by omega) (by omega))) ?_ | refine l1 (add rfl rfl) ?_
      refine l1 (mvi rfl) ?_
      refine lnil ?_
      first | exact nI (i + 1, .slice (some ⟨g, 0, none⟩) ((rdyL l S.v i).length + 1) cap, re') ⟨by omega, by rw [rdyL_t h2, List.length_append, List.flatMap_append]; simpa using hown1⟩ (by show n - (i + 1) < n - i; omega) ⟨rfl, rfl, rfl, rfl, rfl, rfl, rfl, rfl, trivial⟩ (List.Sublist.cons_cons _ (List.Sublist.cons_cons _ (List.Sublist.cons _ (List.Sublist.cons _ (List.Sublist.refl _))))) | exact nI (i + 1, .slice rp (rdyL l S.v i).length rc, re) ⟨by omega, by rw [rdyL_f h2]; exact hown⟩ (by show n - (i + 1) < n - i; omega) ⟨rfl, rfl, rfl, rfl, rfl, rfl, rfl, rfl, trivial⟩ (List.Sublist.cons_cons _ (List.Sublist.cons_cons _ (List.Sublist.cons _ (List.Sublist.refl _))))
    · skip
      refine cskip ?_
      refine nblkN ?_
      refine nthen ?_
      refine creg ?_
      first | refine l1 (addn rfl rfl (ri (by omega) (by omega))) ?_ | refine l1 (add rfl rfl) ?_
      refine l1 (mvi rfl) ?_
      refine lnil ?_
      first | exact nI (i + 1, .slice (some ⟨g, 0, none⟩) ((rdyL l S.v i).length + 1) cap, re') ⟨by omega, by rw [rdyL_t h2, List.length_append, List.flatMap_append]; simpa using hown1⟩ (by show n - (i + 1) < n - i; omega) ⟨rfl, rfl, rfl, rfl, rfl, rfl, rfl, rfl, trivial⟩ (List.Sublist.cons_cons _ (List.Sublist.cons_cons _ (List.Sublist.cons _ (List.Sublist.cons _ (List.Sublist.refl _))))) | exact nI (i + 1, .slice rp (rdyL l S.v i).length rc, re) ⟨by omega, by rw [rdyL_f h2]; exact hown⟩ (by show n - (i + 1) < n - i; omega) ⟨rfl, rfl, rfl, rfl, rfl, rfl, rfl, rfl, trivial⟩ (List.Sublist.cons_cons _ (List.Sublist.cons_cons _ (List.Sublist.cons _ (List.Sublist.refl _))))
  · have hall : n = i := by (have := df h1; omega)
    refine cexit ?_
    refine nthenE ?_
    refine nIE ?_
    refine nblkE ?_
    refine nthen ?_
    refine cseq ?_
    refine cseq ?_
    refine creg ?_
    refine l1 (mvs rfl) ?_
    refine l1 (lens sl54 rfl rfl) ?_
    refine l1 (eql rfl rfl) ?_
    refine lnil ?_
    refine nthen ?_
    refine cif rfl (fun h3 => ?_) (fun h3 => ?_)
    · have hL0 : rdyL l S.v n = [] := by (subst hall; exact List.eq_nil_of_length_eq_zero (by have := dt h3; omega))
      have hno : pick ((List.range n).map l) S.v = none := pick_none.2 hL0
      refine cseq ?_
      refine cregT 3 mo (by kernel_rfl) ?_
      refine q1 (mv rfl) ?_
      refine q1 (ldw 0 Try.isAgg24 Try.sizeOf24 rfl rfl rfl) ?_
      refine q1 (asg rfl) ?_
      refine qtail ?_
      refine lstw 1 rfl rfl rfl Try.sizeOf24 rfl rfl rfl ?_
      refine lnil ?_
      refine nthen ?_
      refine cret ?_
      refine nthenR ?_
      refine nblkR ?_
      refine nIR ?_
      refine nblkR ?_
      exact finM _ (S.oe ++ S.tl) (rv2 rfl (rvt rfl) (rvc 1 Try.isAgg24 Try.sizeOf24 rfl rfl rfl rfl)) ⟨_, List.Perm.refl _, List.Sublist.cons _ (List.Sublist.cons _ (List.sublist_append_right _ _))⟩ ⟨S, rfl, rfl, hS, hno⟩
    · have hne : rdyL l S.v n ≠ [] := by (subst hall; intro he; have := df h3; rw [he] at this; exact this rfl)
      have hpk := pick_of (L := rdyL l S.v n) (hs := ((List.range n).map l)) (v := S.v) rfl hne
      have hLl := rdyL_len l S.v n
      obtain ⟨hmem, hrd, _⟩ := pick_spec hpk
      obtain ⟨q, hq, hqe⟩ := List.mem_map.1 hmem
      have hqn := List.mem_range.1 hq
      have hHx : HdIn w (minT (rdyL l S.v n) ((rdyL l S.v n).length - 1)) := by (have := hx q hqn; rw [hqe] at this; exact this)
      have hHk : HdOk (minT (rdyL l S.v n) ((rdyL l S.v n).length - 1)) := by (have := kx q hqn; rw [hqe] at this; exact this)
      have hw6 := formed_w (ready_formed hrd).1
      have hH20 : (minT (rdyL l S.v n) ((rdyL l S.v n).length - 1)).tn ≤ 20 := Nat.le_trans (formed_tn (ready_formed hrd).1) (by decide)
      rw [← hall] at hown
      have hown' := hown
      rw [← hall]
      have hpos : 0 < (rdyL l S.v n).length := List.length_pos_iff.2 hne
      obtain ⟨H, hHe⟩ : ∃ H, H = minT (rdyL l S.v n) ((rdyL l S.v n).length - 1) := ⟨_, rfl⟩
      rw [← hHe] at hpk hHx hHk hw6 hH20
      refine cskip ?_
      refine nthen ?_
      refine cseq ?_
      refine creg ?_
      refine l1 (mvs rfl) ?_
      refine l1 (cl (v := .agg (encH H).toArray) hb80 rfl (mc rfl (mc rfl mn)) (fun w' hw => by rw [hHe]; exact minf_calls w' _ _ _ (by omega) hpos (SlIn.sl (hown.slInL (fun a => rfl) (fun i hi => ⟨_, List.getElem?_eq_getElem hi, by rw [List.getD_eq_getElem?_getD, List.getElem?_eq_getElem hi]; rfl⟩)) (hw.sub (List.Sublist.cons _ (List.Sublist.cons _ (List.sublist_append_left _ _))))))) ?_
      refine lal (zs := encH hz) Try.zeroValue37 rfl (fun b5 => ?_)
      refine wl_perm (ins_perm 2 _ _) ?_
      refine lstw 2 rfl rfl rfl Try.sizeOf37 rfl rfl rfl ?_
      refine lnil ?_
      refine nthen ?_
      refine cseq ?_
      refine creg ?_
      refine l1 (fa fa37_7 rfl) ?_
      refine l1 (ldc 2 Try.isAgg35 rfl rfl rfl) ?_
      refine wl_sub (List.Sublist.cons_cons _ (List.Sublist.cons_cons _ (List.Sublist.cons_cons _ (List.sublist_append_right _ _)))) ?_
      refine lclm hb82 rfl (mc rfl mn) (fun w' hw => clone_calls w' _ _ _ _ hH20 (Sl.keptS hHx hw)) ?_
      rintro v34 Hn ⟨p', c', rfl, htk⟩
      refine wl_tail 3 ?_
      refine l1 (fa fa37_7 rfl) ?_
      refine lsts 2 rfl rfl rfl Try.sizeOf35 (lb rfl) (encH_setTok H p' c') ?_
      refine lnil ?_
      refine nthen ?_
      refine cseq ?_
      refine creg ?_
      refine l1 (mv rfl) ?_
      refine l1 (ldw 2 Try.isAgg37 Try.sizeOf37 rfl rfl rfl) ?_
      refine lbs Try.underlying54 rfl (bs54 _) (fun b6 => ?_)
      refine wl_perm (ins_perm 3 _ _) ?_
      refine lapp2 [_, _, _, _] S.tl Hn S.oe el54 rfl rfl hS.own rfl (news := encH { H with tp := p', tc := c' }) rfl (fun w' hw => by have := hw.mem (i := 3) rfl 0; simpa using this) (encH_one _) (by decide) (by have := path_len hS.path; rw [List.length_map, List.length_range] at this; unfold maxLen; omega) (by have := path_len hS.path; rw [List.length_map, List.length_range] at this; omega) ?_
      intro go co oe' hown2
      refine l1 (asg rfl) ?_
      refine lnil ?_
      refine nthen ?_
      refine creg ?_
      refine l1 (fa fa37_0 rfl) ?_
      refine l1 (ldc (v := .int .i64 H.writer) 2 Try.isAgg3 rfl rfl rfl) ?_
      refine l1 (subn rfl rfl (ri (by omega) (by omega))) ?_
      refine l1 (fa fa37_1 rfl) ?_
      refine l1 (ldc (v := .int .u64 H.seq) 2 Try.isAgg22 rfl rfl rfl) ?_
      refine l1 (ia ar24 rfl rfl (by omega) (by omega)) ?_
      refine lsti 0 rfl rfl rfl Try.sizeOf22 (by rw [show (encV S.v).length = 6 from rfl]; omega) (encV_set _ _ _ (by omega)) ?_
      refine lnil ?_
      refine nblkN ?_
      exact nI ⟨putV S.v H, S.O ++ [{ H with tp := p', tc := c' }], .slice (some ⟨go, 0, none⟩) (S.O.length + 1) co, oe', S.tl ++ Hn⟩ (OrdOk.next hS hpk hHk htk hown2) (put_later hpk) ⟨rfl, rfl, rfl, rfl, trivial⟩ (List.Sublist.cons_cons _ (List.Sublist.cons_cons _ (List.Sublist.cons _ (List.Sublist.cons _ (List.Sublist.refl _)))))
end Go.Proofs.Ytkdbjhlkahkobaa
