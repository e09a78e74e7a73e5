/- walks, printed by a program of ours -/
import Derived.Test.YtkdbjhlkahkobaaTy
import Derived.Test.YtkdbjhlkahkobaaDef
import Derived.Test.YtkdbjhlkahkobaaXb
namespace Go.Proofs.Ytkdbjhlkahkobaa
open Jal Go.RowKit
set_option maxRecDepth 100000
theorem encC_len (c : Ct) : (encC c).length = 10 := rfl
theorem encC_one (c : Ct) : ∀ u ∈ encC c, u.oneCell' = true := oneA rfl
theorem bs55 (x : Ct) : ∀ w : World, (Instr.buildSlice 55 1 #[(0, .agg (encC x).toArray)]).run Try.prog w = .ok (.slice (some ⟨w.heap.size, 0, none⟩) 1 1) (w.alloc (.cells (encC x).toArray 59)) := fun w => by kernel_rfl
theorem el55 : ElT Try.prog 55 59 10 192 := by
  obtain ⟨i, h1, h2, h3, h4⟩ := info_parts (P := Try.prog) (e := 59) (z := .agg (encC zeroC).toArray) (size := 10) (bytes := 192) (by kernel_rfl)
  exact ⟨i, _, Try.underlying55, h1, h2, h3, h4, rfl, by decide⟩
theorem eql43 {x y : Operand} {g g' : Grp} (h : g = g') (w : World) : (do eqGuard .eql 43 x y (.agg (encG g).toArray) (.agg (encG g').toArray); binOp .eql 43 (.agg (encG g).toArray) (.agg (encG g').toArray)).run Try.prog w = .ok (.bool true) w := by
  subst h
  have ht : Try.prog.eqGuardType Try.prog.depth 43 = false := by kernel_rfl
  have he : (Op.equal 43 (.agg (encG g).toArray) (.agg (encG g).toArray)).run Try.prog w = .ok true w := eq43 9997 g w
  simp [eqGuard, binOp, Sem.run_bind, run_program, ht, he]
/-- where the loop stands -/
structure FS where
  i : Nat
  g : Grp
  cnt : Nat
  ov : Bool
  C : List Ct
  hv : Value
  oh : List Ent
  cv : Value
  oc : List Ent
def mH (l : Nat → Stp) (n : Nat) : List Hd := (List.range n).map (fun i => madeH (l i))
def ysC (C : List Ct) : Nat → Ct := fun j => C.getD j zeroC
structure FInv (l : Nat → Stp) (q : Nat) (s : FS) : Prop where
  len : s.C.length = s.i
  of : ∀ j, j < s.i → CtOk (ysC s.C j)
  oh : OwnL 37 125 s.hv s.i ((mH l s.i).flatMap encH) s.oh
  oc : OwnL 59 10 s.cv s.i (s.C.flatMap encC) s.oc
  no : s.ov = false → s.cnt = s.i ∧ s.i ≤ q
  yes : s.ov = true → s.cnt < s.i ∧ (¬ okAt (fun j => madeH (l j)) (ysC s.C) s.cnt ∨ s.cnt = q)
  g : s.g = gAt (fun j => madeH (l j)) (ysC s.C) s.cnt
  ok : ∀ j, j < s.cnt → okAt (fun j => madeH (l j)) (ysC s.C) j
  le : s.cnt ≤ q ∧ s.cnt ≤ s.i
theorem fInv0 (l : Nat → Stp) (q : Nat) : FInv l q ⟨0, zeroG, 0, false, [], .slice none 0 0, [], .slice none 0 0, []⟩ :=
  ⟨rfl, fun j hj => by simp at hj, OwnL.nil 37 125, OwnL.nil 59 10, fun _ => ⟨rfl, Nat.zero_le _⟩, (by simp), rfl, fun j hj => by simp at hj, ⟨Nat.zero_le _, Nat.zero_le _⟩⟩
theorem ysC_app {C : List Ct} {c : Ct} {j : Nat} (h : j < C.length) : ysC (C ++ [c]) j = ysC C j := by
  unfold ysC
  rw [List.getD_eq_getElem?_getD, List.getD_eq_getElem?_getD, List.getElem?_append_left h]
theorem ysC_last (C : List Ct) (c : Ct) : ysC (C ++ [c]) C.length = c := by
  unfold ysC
  rw [List.getD_eq_getElem?_getD, List.getElem?_append_right (Nat.le_refl _)]
  simp
theorem mH_succ (l : Nat → Stp) (n : Nat) : mH l (n + 1) = mH l n ++ [madeH (l n)] := by unfold mH; rw [List.range_succ, List.map_append]; rfl
/-- a round -/
theorem FInv.next {l : Nat → Stp} {q : Nat} {s : FS} {c : Ct} {hv cv : Value} {oh oc : List Ent} (h : FInv l q s) (hc : CtOk c)
    (k1 : OwnL 37 125 hv (s.i + 1) ((mH l s.i).flatMap encH ++ encH (madeH (l s.i))) oh) (k2 : OwnL 59 10 cv (s.i + 1) (s.C.flatMap encC ++ encC c) oc) (ov' : Bool)
    (hov : ov' = ((s.ov || decide ((appG s.g (madeH (l s.i)) c).2 ≠ 0)) || decide ((s.i : Int) ≥ (q : Int)))) :
    FInv l q ⟨s.i + 1, bif ov' then s.g else (appG s.g (madeH (l s.i)) c).1, bif ov' then s.cnt else s.cnt + 1, ov', s.C ++ [c], hv, oh, cv, oc⟩ := by
  have hys : ∀ j, j < s.i → ysC (s.C ++ [c]) j = ysC s.C j := fun j hj => ysC_app (by rw [h.len]; exact hj)
  have hlast : ysC (s.C ++ [c]) s.i = c := by rw [← h.len]; exact ysC_last _ _
  have hg : gAt (fun j => madeH (l j)) (ysC (s.C ++ [c])) s.cnt = s.g := by rw [h.g]; exact gAt_congr _ (fun j hj => hys j (by have := h.le.2; omega))
  have hok : ∀ j, j < s.cnt → okAt (fun j => madeH (l j)) (ysC (s.C ++ [c])) j := fun j hj => (okAt_congr (fun k hk => hys k (by have := h.le.2; omega))).2 (h.ok j hj)
  have hC : (s.C ++ [c]).length = s.i + 1 := by rw [List.length_append, h.len]; rfl
  have hof : ∀ j, j < s.i + 1 → CtOk (ysC (s.C ++ [c]) j) := fun j hj => by
    rcases Nat.lt_succ_iff_lt_or_eq.1 hj with h1 | h1
    · rw [hys j h1]; exact h.of j h1
    · rw [h1, hlast]; exact hc
  have e1 : (mH l (s.i + 1)).flatMap encH = (mH l s.i).flatMap encH ++ encH (madeH (l s.i)) := by rw [mH_succ, List.flatMap_append]; simp
  have e2 : (s.C ++ [c]).flatMap encC = s.C.flatMap encC ++ encC c := by rw [List.flatMap_append]; simp
  cases hov' : ov' with
  | true =>
    rw [hov'] at hov
    refine ⟨hC, hof, by rw [← e1] at k1; exact k1, by rw [← e2] at k2; exact k2, by simp, fun _ => ?_, hg.symm, hok, ⟨h.le.1, by have := h.le.2; show s.cnt ≤ s.i + 1; omega⟩⟩
    show s.cnt < s.i + 1 ∧ (¬ okAt _ (ysC (s.C ++ [c])) s.cnt ∨ s.cnt = q)
    refine ⟨by have := h.le.2; omega, ?_⟩
    cases ho : s.ov with
    | true =>
      obtain ⟨h1, h2⟩ := h.yes ho
      rcases h2 with h2 | h2
      · exact .inl (fun hc => h2 ((okAt_congr (fun k hk => hys k (by omega))).1 hc))
      · exact .inr h2
    | false =>
      obtain ⟨h1, h2⟩ := h.no ho
      rw [ho] at hov
      simp only [Bool.false_or] at hov
      by_cases he : (appG s.g (madeH (l s.i)) c).2 = 0
      · right
        have : decide ((appG s.g (madeH (l s.i)) c).2 ≠ 0) = false := by simp [he]
        rw [this, Bool.false_or] at hov
        have := of_decide_eq_true hov.symm
        omega
      · left
        intro hk
        unfold okAt at hk
        rw [hg, h1, hlast] at hk
        exact he hk
  | false =>
    rw [hov'] at hov
    have ho : s.ov = false := by cases h0 : s.ov with | false => rfl | true => rw [h0] at hov; simp at hov
    obtain ⟨h1, h2⟩ := h.no ho
    rw [ho] at hov
    simp only [Bool.false_or] at hov
    have he : (appG s.g (madeH (l s.i)) c).2 = 0 := by
      by_cases he : (appG s.g (madeH (l s.i)) c).2 = 0
      · exact he
      · simp [he] at hov
    have hq : s.i < q := by
      rcases Nat.lt_or_ge s.i q with h3 | h3
      · exact h3
      · have : decide ((s.i : Int) ≥ (q : Int)) = true := decide_eq_true (by omega)
        rw [this] at hov; simp at hov
    refine ⟨hC, hof, by rw [← e1] at k1; exact k1, by rw [← e2] at k2; exact k2, fun _ => ⟨by show s.cnt + 1 = s.i + 1; omega, by show s.i + 1 ≤ q; omega⟩, by simp, ?_, ?_, ⟨by show s.cnt + 1 ≤ q; omega, by show s.cnt + 1 ≤ s.i + 1; omega⟩⟩
    · show (appG s.g (madeH (l s.i)) c).1 = (appG (gAt _ (ysC (s.C ++ [c])) s.cnt) (madeH (l s.cnt)) (ysC (s.C ++ [c]) s.cnt)).1
      rw [hg, h1, hlast]
    · intro j hj
      have hj' : j < s.cnt + 1 := hj
      rcases Nat.lt_succ_iff_lt_or_eq.1 hj' with h3 | h3
      · exact hok j h3
      · rw [h3]
        unfold okAt
        rw [hg, h1, hlast]; exact he
theorem FInv.stop {l : Nat → Stp} {q : Nat} {s : FS} (h : FInv l q s) : StopAt (fun j => madeH (l j)) (ysC s.C) s.i (min s.i q) s.cnt := by
  refine ⟨h.ok, h.le.2, by have := h.le; omega, ?_⟩
  cases ho : s.ov with
  | false => exact .inl (h.no ho).1
  | true =>
    obtain ⟨h1, h2⟩ := h.yes ho
    rcases h2 with h2 | h2
    · exact .inr (.inr h2)
    · exact .inr (.inl (by omega))

theorem FInv.nextF {l : Nat → Stp} {q : Nat} {s : FS} {c : Ct} {hv cv : Value} {oh oc : List Ent} (h : FInv l q s) (hc : CtOk c)
    (k1 : OwnL 37 125 hv (s.i + 1) ((mH l s.i).flatMap encH ++ encH (madeH (l s.i))) oh) (k2 : OwnL 59 10 cv (s.i + 1) (s.C.flatMap encC ++ encC c) oc) (b : Bool)
    (hov : b = ((s.ov || decide ((appG s.g (madeH (l s.i)) c).2 ≠ 0)) || decide ((s.i : Int) ≥ (q : Int)))) (hb : b = false) :
    FInv l q ⟨s.i + 1, (appG s.g (madeH (l s.i)) c).1, s.cnt + 1, b, s.C ++ [c], hv, oh, cv, oc⟩ := by
  have := h.next hc k1 k2 b hov
  rw [hb] at this ⊢; exact this
theorem FInv.nextT {l : Nat → Stp} {q : Nat} {s : FS} {c : Ct} {hv cv : Value} {oh oc : List Ent} (h : FInv l q s) (hc : CtOk c)
    (k1 : OwnL 37 125 hv (s.i + 1) ((mH l s.i).flatMap encH ++ encH (madeH (l s.i))) oh) (k2 : OwnL 59 10 cv (s.i + 1) (s.C.flatMap encC ++ encC c) oc) (b : Bool)
    (hov : b = ((s.ov || decide ((appG s.g (madeH (l s.i)) c).2 ≠ 0)) || decide ((s.i : Int) ≥ (q : Int)))) (hb : b = true) :
    FInv l q ⟨s.i + 1, s.g, s.cnt, b, s.C ++ [c], hv, oh, cv, oc⟩ := by
  have := h.next hc k1 k2 b hov
  rw [hb] at this ⊢; exact this

set_option maxHeartbeats 2000000 in
theorem folds_law (w : World) (p : Option Addr) (n c : Nat) (hn : (n : Int) ≤ 9223372036854775807) (l : Nat → Stp) (hl : Sl w p n 4 (fun i => encS (l i))) (hok : ∀ i, i < n → StpOk (l i)) (a : Nat) (ha : a ≤ 255) : Calls Try.prog 12 #[.slice p n c, .int .u8 (a : Int)] w (Ret (.bool true) w) := by
  refine fn_calls (n := 93) Try.func12 rfl rfl (lb rfl) ?_
  refine cseq ?_
  refine creg ?_
  refine l1 (asgb rfl) ?_
  refine lnil ?_
  refine nthen ?_
  refine cseq ?_
  refine cseq ?_
  refine creg ?_
  refine l1 (cl hb31 rfl mn (fun w hw => awake17_calls w)) ?_
  refine l1 (nt rfl) ?_
  refine l1 (mvb rfl) ?_
  refine l1g rfl (gwf rfl) (fun h => mvs rfl) ?_
  refine l1g rfl (gwf rfl) (fun h => lens sl40 rfl (gvt h)) ?_
  refine l1g rfl (gwf rfl) (fun h => gtr (gvt h) rfl) ?_
  refine l1 (pk_or rfl rfl rfl) ?_
  refine lnil ?_
  refine nthen ?_
  refine cif rfl (fun h1 => ?_) (fun h1 => ?_)
  · skip
    refine cseq ?_
    refine creg ?_
    refine l1 (cl hb31 rfl mn (fun w hw => awake17_calls w)) ?_
    refine l1 (asgb rfl) ?_
    refine lnil ?_
    refine nthen ?_
    refine cret ?_
    refine nthenR ?_
    exact fin1b rfl rfl (by first | rfl | (rw [hKe]; simp))
  · have hn40 : n ≤ 40 := by (simp at h1; omega)
    refine cskip ?_
    refine nthen ?_
    refine cseq ?_
    refine creg ?_
    refine lal (zs := encG zeroG) Try.zeroValue43 rfl (fun b1 => ?_)
    refine lnil ?_
    refine nthen ?_
    refine cseq ?_
    refine creg ?_
    refine l1 (asg rfl) ?_
    refine lnil ?_
    refine nthen ?_
    refine cseq ?_
    refine creg ?_
    refine l1 (asg rfl) ?_
    refine lnil ?_
    refine nthen ?_
    refine cseq ?_
    refine creg ?_
    refine l1 (asgi rfl) ?_
    refine l1 (asgb rfl) ?_
    refine lnil ?_
    refine nthen ?_
    refine cseq ?_
    refine cseq ?_
    refine creg ?_
    refine l1 (asgi rfl) ?_
    refine lnil ?_
    refine nthen ?_
    refine cblock ?_
    refine cloopI (σ := FS) (fun s => [(0, .slice p n c), (1, .int .u8 (a : Int)), (5, .pointer (some ⟨b1, 0, none⟩)), (6, s.hv), (7, s.cv), (8, .int .i64 (s.cnt : Int)), (9, .bool s.ov), (10, .int .i64 (s.i : Int))]) (fun s => ([⟨b1, encG s.g, 43⟩] ++ (s.oh ++ (s.oc ++ [])))) (fun s => s.i ≤ n ∧ FInv l (a % 50) s) (fun s => n - s.i) ⟨0, zeroG, 0, false, [], .slice none 0 0, [], .slice none 0 0, []⟩ ⟨Nat.zero_le _, fInv0 l _⟩ ⟨rfl, rfl, rfl, rfl, rfl, rfl, rfl, rfl, trivial⟩ (List.Sublist.refl _) ?_
    rintro ⟨i, g, cnt, ov, C, hv, oh, cv, oc⟩ j ⟨hi, hF⟩; replace hi : i ≤ n := hi; obtain ⟨ph, ch, hhv⟩ := hF.oh.form; obtain rfl : hv = .slice ph i ch := hhv; obtain ⟨pc, cc, hcv⟩ := hF.oc.form; obtain rfl : cv = .slice pc i cc := hcv; have hcle : cnt ≤ i := hF.le.2
    show WC _ _ _ (⟨b1, encG g, 43⟩ :: (oh ++ (oc ++ []))) _ _ (over j [(0, .slice p n c), (1, .int .u8 (a : Int)), (5, .pointer (some ⟨b1, 0, none⟩)), (6, .slice ph i ch), (7, .slice pc i cc), (8, .int .i64 (cnt : Int)), (9, .bool ov), (10, .int .i64 (i : Int))])
    refine cseq ?_
    refine cseq ?_
    refine creg ?_
    refine l1 (mvi rfl) ?_
    refine l1 (mvs rfl) ?_
    refine l1 (lens sl40 rfl rfl) ?_
    refine l1 (lss rfl rfl) ?_
    refine lnil ?_
    refine nthen ?_
    refine cif rfl (fun h2 => ?_) (fun h2 => ?_)
    · have hlt : i < n := by (have := dt h2; omega)
      obtain ⟨b, o, hp, hbl, hm⟩ := hl.at hlt
      refine cskip ?_
      refine nthen ?_
      refine cseq ?_
      refine cblock ?_
      refine cseq ?_
      refine ccut (Y := Nat × Nat × Ct) (fun y => ⟨b1, encG g, 43⟩ :: ⟨y.1, encH (madeH (l i)), 37⟩ :: ⟨y.2.1, encC y.2.2, 59⟩ :: (oh ++ (oc ++ []))) (fun y => [(0, .slice p n c), (1, .int .u8 (a : Int)), (5, .pointer (some ⟨b1, 0, none⟩)), (6, .slice ph i ch), (7, .slice pc i cc), (8, .int .i64 (cnt : Int)), (9, .bool ov), (10, .int .i64 (i : Int)), (11, .pointer (some ⟨y.1, 0, none⟩)), (12, .pointer (some ⟨y.2.1, 0, none⟩))]) (fun y => CtOf (l i) y.2.2) ?_ ?_
      · refine cregH (fun (_ : Unit) => ⟨b1, encG g, 43⟩ :: (oh ++ (oc ++ []))) 13 mo rfl ?_
        refine hq1 0 rfl (by kernel_rfl) (by kernel_rfl) (by kernel_rfl) (fun c a w h => h) (.inl ⟨_, rfl⟩) (fun w hw => ⟨(), hw.sub (List.Sublist.cons_cons _ (List.Sublist.refl _))⟩) (fun T => ldw 0 Try.isAgg43 Try.sizeOf43 rfl rfl rfl) ?_
        refine hq1 1 rfl (by kernel_rfl) (by kernel_rfl) (by kernel_rfl) (fun c a w h => h) (.inr ⟨_, rfl⟩) (fun w hw => ⟨(), hw.sub (List.Sublist.cons_cons _ (List.Sublist.refl _))⟩) (fun T => mvs rfl) ?_
        refine hq1 2 rfl (by kernel_rfl) (by kernel_rfl) (by kernel_rfl) (fun c a w h => h) (.inr ⟨_, rfl⟩) (fun w hw => ⟨(), hw.sub (List.Sublist.cons_cons _ (List.Sublist.refl _))⟩) (fun T => mvi rfl) ?_
        refine hq1 3 rfl (by kernel_rfl) (by kernel_rfl) (by kernel_rfl) (fun c a w h => h) (.inl ⟨_, rfl⟩) (fun w hw => ⟨(), hw.sub (List.Sublist.cons_cons _ (List.Sublist.refl _))⟩) (fun T => isp sl40 hp rfl rfl (by omega) (by omega)) ?_
        refine hq1 4 rfl (by kernel_rfl) (by kernel_rfl) (by kernel_rfl) (fun c a w h => h) (.inl ⟨_, rfl⟩) (fun w hw => ⟨(), hw.sub (List.Sublist.cons_cons _ (List.Sublist.refl _))⟩) (fun T => ldam (vs := encS (l i)) Try.isAgg45 Try.sizeOf45 rfl rfl (fun w' hw => (hm i hlt).kept hw.below hbl)) ?_
        refine hem3 5 9 10 (by kernel_rfl) rfl rfl rfl ?_ ?_ ?_
        · skip
          refine lclm hb40 rfl (mc rfl (mc rfl mn)) (fun w' hw => made_calls g (l i) (hok i hlt) w') ?_
          rintro r Hn ⟨c, rfl, rfl, hc⟩
          refine wl_nil ?_
          refine hnil (fun w hw => ⟨(), hw.sub (List.Sublist.cons_cons _ (List.Sublist.refl _))⟩) ?_
          refine hq1 6 rfl (by kernel_rfl) (by kernel_rfl) (by kernel_rfl) (fun c a w h => h) (.inr ⟨_, rfl⟩) (fun w hw => ⟨(), hw.sub (List.Sublist.cons_cons _ (List.Sublist.refl _))⟩) (fun T => mv rfl) ?_
          refine hq1 7 rfl (by kernel_rfl) (by kernel_rfl) (by kernel_rfl) (fun c a w h => h) (.inl ⟨_, rfl⟩) (fun w hw => ⟨(), hw.sub (List.Sublist.cons_cons _ (List.Sublist.refl _))⟩) (fun T => ext (vs := [.agg (encH (madeH (l i))).toArray, .agg (encC c).toArray]) rfl rfl) ?_
          refine hq1 8 rfl (by kernel_rfl) (by kernel_rfl) (by kernel_rfl) (fun c a w h => h) (.inl ⟨_, rfl⟩) (fun w hw => ⟨(), hw.sub (List.Sublist.cons_cons _ (List.Sublist.refl _))⟩) (fun T => ext (vs := [.agg (encH (madeH (l i))).toArray, .agg (encC c).toArray]) rfl rfl) ?_
          refine hem2 9 10 (by kernel_rfl) rfl rfl ?_ ?_
          · skip
            refine lal (zs := encH hz) Try.zeroValue37 rfl (fun b2 => ?_)
            refine wl_perm (ins_perm 1 _ _) ?_
            refine hnil (fun w hw => ⟨(), hw.sub (List.Sublist.cons_cons _ (List.Sublist.cons _ (List.Sublist.refl _)))⟩) ?_
            refine he 10 (by kernel_rfl) rfl ?_
            refine lal (zs := encC zeroC) Try.zeroValue59 rfl (fun b3 => ?_)
            refine wl_perm (ins_perm 2 _ _) ?_
            refine hnil (fun w hw => ⟨(), hw.sub (List.Sublist.cons_cons _ (List.Sublist.cons _ (List.Sublist.cons _ (List.Sublist.refl _))))⟩) ?_
            refine he 11 (by kernel_rfl) rfl ?_
            refine lstw 1 rfl rfl rfl Try.sizeOf37 rfl rfl rfl ?_
            refine hnil (fun w hw => ⟨(), hw.sub (List.Sublist.cons_cons _ (List.Sublist.cons _ (List.Sublist.cons _ (List.Sublist.refl _))))⟩) ?_
            refine he 12 (by kernel_rfl) rfl ?_
            refine lstw 2 rfl rfl rfl Try.sizeOf59 rfl rfl rfl ?_
            refine hnil (fun w hw => ⟨(), hw.sub (List.Sublist.cons_cons _ (List.Sublist.cons _ (List.Sublist.cons _ (List.Sublist.refl _))))⟩) ?_
            refine hend (by kernel_rfl) ?_
            exact nCut (b2, b3, c) hc ⟨rfl, rfl, rfl, rfl, rfl, rfl, rfl, rfl, rfl, rfl, trivial⟩ ⟨_, List.Perm.refl _, List.Sublist.refl _⟩
          · skip
            refine lal (zs := encC zeroC) Try.zeroValue59 rfl (fun b4 => ?_)
            refine wl_perm (ins_perm 1 _ _) ?_
            refine hnil (fun w hw => ⟨(), hw.sub (List.Sublist.cons_cons _ (List.Sublist.cons _ (List.Sublist.refl _)))⟩) ?_
            refine he 9 (by kernel_rfl) rfl ?_
            refine lal (zs := encH hz) Try.zeroValue37 rfl (fun b5 => ?_)
            refine wl_perm (ins_perm 2 _ _) ?_
            refine hnil (fun w hw => ⟨(), hw.sub (List.Sublist.cons_cons _ (List.Sublist.cons _ (List.Sublist.cons _ (List.Sublist.refl _))))⟩) ?_
            refine he 11 (by kernel_rfl) rfl ?_
            refine lstw 2 rfl rfl rfl Try.sizeOf37 rfl rfl rfl ?_
            refine hnil (fun w hw => ⟨(), hw.sub (List.Sublist.cons_cons _ (List.Sublist.cons _ (List.Sublist.cons _ (List.Sublist.refl _))))⟩) ?_
            refine he 12 (by kernel_rfl) rfl ?_
            refine lstw 1 rfl rfl rfl Try.sizeOf59 rfl rfl rfl ?_
            refine hnil (fun w hw => ⟨(), hw.sub (List.Sublist.cons_cons _ (List.Sublist.cons _ (List.Sublist.cons _ (List.Sublist.refl _))))⟩) ?_
            refine hend (by kernel_rfl) ?_
            exact nCut (b5, b4, c) hc ⟨rfl, rfl, rfl, rfl, rfl, rfl, rfl, rfl, rfl, rfl, trivial⟩ ⟨_, List.Perm.cons _ (List.Perm.swap _ _ _), List.Sublist.refl _⟩
        · skip
          refine lal (zs := encH hz) Try.zeroValue37 rfl (fun b6 => ?_)
          refine wl_perm (ins_perm 1 _ _) ?_
          refine hnil (fun w hw => ⟨(), hw.sub (List.Sublist.cons_cons _ (List.Sublist.cons _ (List.Sublist.refl _)))⟩) ?_
          refine hem2 5 10 (by kernel_rfl) rfl rfl ?_ ?_
          · skip
            refine lclm hb40 rfl (mc rfl (mc rfl mn)) (fun w' hw => made_calls g (l i) (hok i hlt) w') ?_
            rintro r Hn ⟨c, rfl, rfl, hc⟩
            refine wl_nil ?_
            refine hnil (fun w hw => ⟨(), hw.sub (List.Sublist.cons_cons _ (List.Sublist.cons _ (List.Sublist.refl _)))⟩) ?_
            refine hq1 6 rfl (by kernel_rfl) (by kernel_rfl) (by kernel_rfl) (fun c a w h => h) (.inr ⟨_, rfl⟩) (fun w hw => ⟨(), hw.sub (List.Sublist.cons_cons _ (List.Sublist.cons _ (List.Sublist.refl _)))⟩) (fun T => mv rfl) ?_
            refine hq1 7 rfl (by kernel_rfl) (by kernel_rfl) (by kernel_rfl) (fun c a w h => h) (.inl ⟨_, rfl⟩) (fun w hw => ⟨(), hw.sub (List.Sublist.cons_cons _ (List.Sublist.cons _ (List.Sublist.refl _)))⟩) (fun T => ext (vs := [.agg (encH (madeH (l i))).toArray, .agg (encC c).toArray]) rfl rfl) ?_
            refine hq1 8 rfl (by kernel_rfl) (by kernel_rfl) (by kernel_rfl) (fun c a w h => h) (.inl ⟨_, rfl⟩) (fun w hw => ⟨(), hw.sub (List.Sublist.cons_cons _ (List.Sublist.cons _ (List.Sublist.refl _)))⟩) (fun T => ext (vs := [.agg (encH (madeH (l i))).toArray, .agg (encC c).toArray]) rfl rfl) ?_
            refine he 10 (by kernel_rfl) rfl ?_
            refine lal (zs := encC zeroC) Try.zeroValue59 rfl (fun b7 => ?_)
            refine wl_perm (ins_perm 2 _ _) ?_
            refine hnil (fun w hw => ⟨(), hw.sub (List.Sublist.cons_cons _ (List.Sublist.cons _ (List.Sublist.cons _ (List.Sublist.refl _))))⟩) ?_
            refine he 11 (by kernel_rfl) rfl ?_
            refine lstw 1 rfl rfl rfl Try.sizeOf37 rfl rfl rfl ?_
            refine hnil (fun w hw => ⟨(), hw.sub (List.Sublist.cons_cons _ (List.Sublist.cons _ (List.Sublist.cons _ (List.Sublist.refl _))))⟩) ?_
            refine he 12 (by kernel_rfl) rfl ?_
            refine lstw 2 rfl rfl rfl Try.sizeOf59 rfl rfl rfl ?_
            refine hnil (fun w hw => ⟨(), hw.sub (List.Sublist.cons_cons _ (List.Sublist.cons _ (List.Sublist.cons _ (List.Sublist.refl _))))⟩) ?_
            refine hend (by kernel_rfl) ?_
            exact nCut (b6, b7, c) hc ⟨rfl, rfl, rfl, rfl, rfl, rfl, rfl, rfl, rfl, rfl, trivial⟩ ⟨_, List.Perm.refl _, List.Sublist.refl _⟩
          · skip
            refine lal (zs := encC zeroC) Try.zeroValue59 rfl (fun b8 => ?_)
            refine wl_perm (ins_perm 2 _ _) ?_
            refine hnil (fun w hw => ⟨(), hw.sub (List.Sublist.cons_cons _ (List.Sublist.cons _ (List.Sublist.cons _ (List.Sublist.refl _))))⟩) ?_
            refine he 5 (by kernel_rfl) rfl ?_
            refine lclm hb40 rfl (mc rfl (mc rfl mn)) (fun w' hw => made_calls g (l i) (hok i hlt) w') ?_
            rintro r Hn ⟨c, rfl, rfl, hc⟩
            refine wl_nil ?_
            refine hnil (fun w hw => ⟨(), hw.sub (List.Sublist.cons_cons _ (List.Sublist.cons _ (List.Sublist.cons _ (List.Sublist.refl _))))⟩) ?_
            refine hq1 6 rfl (by kernel_rfl) (by kernel_rfl) (by kernel_rfl) (fun c a w h => h) (.inr ⟨_, rfl⟩) (fun w hw => ⟨(), hw.sub (List.Sublist.cons_cons _ (List.Sublist.cons _ (List.Sublist.cons _ (List.Sublist.refl _))))⟩) (fun T => mv rfl) ?_
            refine hq1 7 rfl (by kernel_rfl) (by kernel_rfl) (by kernel_rfl) (fun c a w h => h) (.inl ⟨_, rfl⟩) (fun w hw => ⟨(), hw.sub (List.Sublist.cons_cons _ (List.Sublist.cons _ (List.Sublist.cons _ (List.Sublist.refl _))))⟩) (fun T => ext (vs := [.agg (encH (madeH (l i))).toArray, .agg (encC c).toArray]) rfl rfl) ?_
            refine hq1 8 rfl (by kernel_rfl) (by kernel_rfl) (by kernel_rfl) (fun c a w h => h) (.inl ⟨_, rfl⟩) (fun w hw => ⟨(), hw.sub (List.Sublist.cons_cons _ (List.Sublist.cons _ (List.Sublist.cons _ (List.Sublist.refl _))))⟩) (fun T => ext (vs := [.agg (encH (madeH (l i))).toArray, .agg (encC c).toArray]) rfl rfl) ?_
            refine he 11 (by kernel_rfl) rfl ?_
            refine lstw 1 rfl rfl rfl Try.sizeOf37 rfl rfl rfl ?_
            refine hnil (fun w hw => ⟨(), hw.sub (List.Sublist.cons_cons _ (List.Sublist.cons _ (List.Sublist.cons _ (List.Sublist.refl _))))⟩) ?_
            refine he 12 (by kernel_rfl) rfl ?_
            refine lstw 2 rfl rfl rfl Try.sizeOf59 rfl rfl rfl ?_
            refine hnil (fun w hw => ⟨(), hw.sub (List.Sublist.cons_cons _ (List.Sublist.cons _ (List.Sublist.cons _ (List.Sublist.refl _))))⟩) ?_
            refine hend (by kernel_rfl) ?_
            exact nCut (b6, b8, c) hc ⟨rfl, rfl, rfl, rfl, rfl, rfl, rfl, rfl, rfl, rfl, trivial⟩ ⟨_, List.Perm.refl _, List.Sublist.refl _⟩
        · skip
          refine lal (zs := encC zeroC) Try.zeroValue59 rfl (fun b9 => ?_)
          refine wl_perm (ins_perm 1 _ _) ?_
          refine hnil (fun w hw => ⟨(), hw.sub (List.Sublist.cons_cons _ (List.Sublist.cons _ (List.Sublist.refl _)))⟩) ?_
          refine hem2 5 9 (by kernel_rfl) rfl rfl ?_ ?_
          · skip
            refine lclm hb40 rfl (mc rfl (mc rfl mn)) (fun w' hw => made_calls g (l i) (hok i hlt) w') ?_
            rintro r Hn ⟨c, rfl, rfl, hc⟩
            refine wl_nil ?_
            refine hnil (fun w hw => ⟨(), hw.sub (List.Sublist.cons_cons _ (List.Sublist.cons _ (List.Sublist.refl _)))⟩) ?_
            refine hq1 6 rfl (by kernel_rfl) (by kernel_rfl) (by kernel_rfl) (fun c a w h => h) (.inr ⟨_, rfl⟩) (fun w hw => ⟨(), hw.sub (List.Sublist.cons_cons _ (List.Sublist.cons _ (List.Sublist.refl _)))⟩) (fun T => mv rfl) ?_
            refine hq1 7 rfl (by kernel_rfl) (by kernel_rfl) (by kernel_rfl) (fun c a w h => h) (.inl ⟨_, rfl⟩) (fun w hw => ⟨(), hw.sub (List.Sublist.cons_cons _ (List.Sublist.cons _ (List.Sublist.refl _)))⟩) (fun T => ext (vs := [.agg (encH (madeH (l i))).toArray, .agg (encC c).toArray]) rfl rfl) ?_
            refine hq1 8 rfl (by kernel_rfl) (by kernel_rfl) (by kernel_rfl) (fun c a w h => h) (.inl ⟨_, rfl⟩) (fun w hw => ⟨(), hw.sub (List.Sublist.cons_cons _ (List.Sublist.cons _ (List.Sublist.refl _)))⟩) (fun T => ext (vs := [.agg (encH (madeH (l i))).toArray, .agg (encC c).toArray]) rfl rfl) ?_
            refine he 9 (by kernel_rfl) rfl ?_
            refine lal (zs := encH hz) Try.zeroValue37 rfl (fun b10 => ?_)
            refine wl_perm (ins_perm 2 _ _) ?_
            refine hnil (fun w hw => ⟨(), hw.sub (List.Sublist.cons_cons _ (List.Sublist.cons _ (List.Sublist.cons _ (List.Sublist.refl _))))⟩) ?_
            refine he 11 (by kernel_rfl) rfl ?_
            refine lstw 2 rfl rfl rfl Try.sizeOf37 rfl rfl rfl ?_
            refine hnil (fun w hw => ⟨(), hw.sub (List.Sublist.cons_cons _ (List.Sublist.cons _ (List.Sublist.cons _ (List.Sublist.refl _))))⟩) ?_
            refine he 12 (by kernel_rfl) rfl ?_
            refine lstw 1 rfl rfl rfl Try.sizeOf59 rfl rfl rfl ?_
            refine hnil (fun w hw => ⟨(), hw.sub (List.Sublist.cons_cons _ (List.Sublist.cons _ (List.Sublist.cons _ (List.Sublist.refl _))))⟩) ?_
            refine hend (by kernel_rfl) ?_
            exact nCut (b10, b9, c) hc ⟨rfl, rfl, rfl, rfl, rfl, rfl, rfl, rfl, rfl, rfl, trivial⟩ ⟨_, List.Perm.cons _ (List.Perm.swap _ _ _), List.Sublist.refl _⟩
          · skip
            refine lal (zs := encH hz) Try.zeroValue37 rfl (fun b11 => ?_)
            refine wl_perm (ins_perm 2 _ _) ?_
            refine hnil (fun w hw => ⟨(), hw.sub (List.Sublist.cons_cons _ (List.Sublist.cons _ (List.Sublist.cons _ (List.Sublist.refl _))))⟩) ?_
            refine he 5 (by kernel_rfl) rfl ?_
            refine lclm hb40 rfl (mc rfl (mc rfl mn)) (fun w' hw => made_calls g (l i) (hok i hlt) w') ?_
            rintro r Hn ⟨c, rfl, rfl, hc⟩
            refine wl_nil ?_
            refine hnil (fun w hw => ⟨(), hw.sub (List.Sublist.cons_cons _ (List.Sublist.cons _ (List.Sublist.cons _ (List.Sublist.refl _))))⟩) ?_
            refine hq1 6 rfl (by kernel_rfl) (by kernel_rfl) (by kernel_rfl) (fun c a w h => h) (.inr ⟨_, rfl⟩) (fun w hw => ⟨(), hw.sub (List.Sublist.cons_cons _ (List.Sublist.cons _ (List.Sublist.cons _ (List.Sublist.refl _))))⟩) (fun T => mv rfl) ?_
            refine hq1 7 rfl (by kernel_rfl) (by kernel_rfl) (by kernel_rfl) (fun c a w h => h) (.inl ⟨_, rfl⟩) (fun w hw => ⟨(), hw.sub (List.Sublist.cons_cons _ (List.Sublist.cons _ (List.Sublist.cons _ (List.Sublist.refl _))))⟩) (fun T => ext (vs := [.agg (encH (madeH (l i))).toArray, .agg (encC c).toArray]) rfl rfl) ?_
            refine hq1 8 rfl (by kernel_rfl) (by kernel_rfl) (by kernel_rfl) (fun c a w h => h) (.inl ⟨_, rfl⟩) (fun w hw => ⟨(), hw.sub (List.Sublist.cons_cons _ (List.Sublist.cons _ (List.Sublist.cons _ (List.Sublist.refl _))))⟩) (fun T => ext (vs := [.agg (encH (madeH (l i))).toArray, .agg (encC c).toArray]) rfl rfl) ?_
            refine he 11 (by kernel_rfl) rfl ?_
            refine lstw 2 rfl rfl rfl Try.sizeOf37 rfl rfl rfl ?_
            refine hnil (fun w hw => ⟨(), hw.sub (List.Sublist.cons_cons _ (List.Sublist.cons _ (List.Sublist.cons _ (List.Sublist.refl _))))⟩) ?_
            refine he 12 (by kernel_rfl) rfl ?_
            refine lstw 1 rfl rfl rfl Try.sizeOf59 rfl rfl rfl ?_
            refine hnil (fun w hw => ⟨(), hw.sub (List.Sublist.cons_cons _ (List.Sublist.cons _ (List.Sublist.cons _ (List.Sublist.refl _))))⟩) ?_
            refine hend (by kernel_rfl) ?_
            exact nCut (b11, b9, c) hc ⟨rfl, rfl, rfl, rfl, rfl, rfl, rfl, rfl, rfl, rfl, trivial⟩ ⟨_, List.Perm.cons _ (List.Perm.swap _ _ _), List.Sublist.refl _⟩
      · intro y j hcy
        refine nthen ?_
        refine cseq ?_
        refine creg ?_
        refine l1 (mvs rfl) ?_
        refine l1 (ldw 1 Try.isAgg37 Try.sizeOf37 rfl rfl rfl) ?_
        refine lbs Try.underlying54 rfl (bs54 _) (fun b12 => ?_)
        refine wl_perm (ins_perm 3 _ _) ?_
        refine lapp [_, _, _, _] (oc ++ []) oh el54 rfl rfl hF.oh rfl (news := encH (madeH (l i))) rfl (fun w' hw => by have := hw.mem (i := 3) rfl 0; simpa using this) (encH_one _) (by decide) (by unfold maxLen; show i + 1 ≤ _; omega) (by show (i + 1) * 232 ≤ _; omega) ?_
        intro gh caph oh' hown1
        refine l1 (asg rfl) ?_
        refine lnil ?_
        refine nthen ?_
        refine cseq ?_
        refine creg ?_
        refine l1 (mvs rfl) ?_
        refine l1 (ldw 2 Try.isAgg59 Try.sizeOf59 rfl rfl rfl) ?_
        refine lbs Try.underlying55 rfl (bs55 _) (fun b13 => ?_)
        refine wl_perm (ins_perm 4 _ _) ?_
        refine lapp3 [_, _, _, _, _] oh' [] oc el55 rfl rfl hF.oc rfl (news := encC y.2.2) rfl (fun w' hw => by have := hw.mem (i := 4) rfl 0; simpa using this) (encC_one _) (by decide) (by unfold maxLen; show i + 1 ≤ _; omega) (by show (i + 1) * 192 ≤ _; omega) ?_
        intro gc capc oc' hown2
        refine l1 (asg rfl) ?_
        refine lnil ?_
        refine nthen ?_
        refine cseq ?_
        refine creg ?_
        refine l1 (ldw 0 Try.isAgg43 Try.sizeOf43 rfl rfl rfl) ?_
        refine l1 (ldw 1 Try.isAgg37 Try.sizeOf37 rfl rfl rfl) ?_
        refine l1 (ldw 2 Try.isAgg59 Try.sizeOf59 rfl rfl rfl) ?_
        refine l1 (cl hb42 rfl (mc rfl (mc rfl (mc rfl mn))) (fun w' hw => apply_calls _ _ _ w' (madeIn w' _) (madeOk (hok i hlt)) (hcy.ok (hok i hlt)))) ?_
        refine l1 (mv rfl) ?_
        refine l1 (ext (vs := [_, _]) rfl rfl) ?_
        refine l1 (ext (vs := [_, _]) rfl rfl) ?_
        refine lal (zs := encG zeroG) Try.zeroValue43 rfl (fun b14 => ?_)
        refine wl_perm (ins_perm 5 _ _) ?_
        refine lstw 5 rfl rfl rfl Try.sizeOf43 rfl rfl rfl ?_
        refine l1 (asgi rfl) ?_
        refine lnil ?_
        refine nthen ?_
        refine cseq ?_
        refine creg ?_
        refine l1 (mvb rfl) ?_
        refine l1 (mvb rfl) ?_
        refine l1g rfl (gwf rfl) (fun h => mvi rfl) ?_
        refine l1g rfl (gwf rfl) (fun h => neq (gvt h) rfl) ?_
        refine l1 (pk_or rfl rfl rfl) ?_
        refine l1 (mvb rfl) ?_
        refine l1g rfl (gwf rfl) (fun h => mvi rfl) ?_
        refine l1g rfl (gwf rfl) (fun h => mvi rfl) ?_
        refine l1g rfl (gwf rfl) (fun h => remn (r := ((a % 50 : Nat) : Int)) (gvt h) rfl (by decide) (Int.ofNat_tmod _ _).symm) ?_
        refine l1g rfl (gwf rfl) (fun h => cvn ⟨_, Try.underlying5⟩ Try.underlying3 (gvt h) (ri (by omega) (by have := Nat.mod_lt a (show 0 < 50 by decide); omega))) ?_
        refine l1g rfl (gwf rfl) (fun h => geq (gvt h) (gvt h)) ?_
        refine l1 (pk_or rfl rfl rfl) ?_
        refine l1 (asgb rfl) ?_
        refine lnil ?_
        refine nthen ?_
        refine cseq ?_
        refine creg ?_
        refine l1 (mvb rfl) ?_
        refine l1 (nt rfl) ?_
        refine lnil ?_
        refine nthen ?_
        refine cif rfl (fun h3 => ?_) (fun h3 => ?_)
        · skip
          refine cseq ?_
          refine creg ?_
          refine l1 (ldw 5 Try.isAgg43 Try.sizeOf43 rfl rfl rfl) ?_
          refine lstw 0 rfl rfl rfl Try.sizeOf43 rfl rfl rfl ?_
          refine lnil ?_
          refine nthen ?_
          refine creg ?_
          refine l1 (mvi rfl) ?_
          first | refine l1 (addn rfl rfl (ri (by omega) (by omega))) ?_ | refine l1 (add rfl rfl) ?_
          refine l1 (asgi rfl) ?_
          refine lnil ?_
          refine nblkN ?_
          refine nthen ?_
          refine creg ?_
          refine l1 (mvi rfl) ?_
          first | refine l1 (addn rfl rfl (ri (by omega) (by omega))) ?_ | refine l1 (add rfl rfl) ?_
          refine l1 (asgi rfl) ?_
          refine lnil ?_
          first | exact nI ⟨i + 1, (appG g (madeH (l i)) y.2.2).1, cnt + 1, _, C ++ [y.2.2], .slice (some ⟨gh, 0, none⟩) (i + 1) caph, oh', .slice (some ⟨gc, 0, none⟩) (i + 1) capc, oc'⟩ ⟨by show i + 1 ≤ n; omega, FInv.nextF hF (hcy.ok (hok i hlt)) hown1 hown2 _ rfl (nn h3)⟩ (by show n - (i + 1) < n - i; omega) ⟨rfl, rfl, rfl, rfl, rfl, rfl, rfl, rfl, trivial⟩ (List.Sublist.cons_cons _ (List.Sublist.cons _ (List.Sublist.cons _ (List.Sublist.cons _ (List.Sublist.cons _ (List.Sublist.cons _ (List.Sublist.refl _))))))) | exact nI ⟨i + 1, g, cnt, _, C ++ [y.2.2], .slice (some ⟨gh, 0, none⟩) (i + 1) caph, oh', .slice (some ⟨gc, 0, none⟩) (i + 1) capc, oc'⟩ ⟨by show i + 1 ≤ n; omega, FInv.nextT hF (hcy.ok (hok i hlt)) hown1 hown2 _ rfl (nn h3)⟩ (by show n - (i + 1) < n - i; omega) ⟨rfl, rfl, rfl, rfl, rfl, rfl, rfl, rfl, trivial⟩ (List.Sublist.cons_cons _ (List.Sublist.cons _ (List.Sublist.cons _ (List.Sublist.cons _ (List.Sublist.cons _ (List.Sublist.cons _ (List.Sublist.refl _)))))))
        · skip
          refine cskip ?_
          refine nblkN ?_
          refine nthen ?_
          refine creg ?_
          refine l1 (mvi rfl) ?_
          first | refine l1 (addn rfl rfl (ri (by omega) (by omega))) ?_ | refine l1 (add rfl rfl) ?_
          refine l1 (asgi rfl) ?_
          refine lnil ?_
          first | exact nI ⟨i + 1, (appG g (madeH (l i)) y.2.2).1, cnt + 1, _, C ++ [y.2.2], .slice (some ⟨gh, 0, none⟩) (i + 1) caph, oh', .slice (some ⟨gc, 0, none⟩) (i + 1) capc, oc'⟩ ⟨by show i + 1 ≤ n; omega, FInv.nextF hF (hcy.ok (hok i hlt)) hown1 hown2 _ rfl (nn h3)⟩ (by show n - (i + 1) < n - i; omega) ⟨rfl, rfl, rfl, rfl, rfl, rfl, rfl, rfl, trivial⟩ (List.Sublist.cons_cons _ (List.Sublist.cons _ (List.Sublist.cons _ (List.Sublist.cons _ (List.Sublist.cons _ (List.Sublist.cons _ (List.Sublist.refl _))))))) | exact nI ⟨i + 1, g, cnt, _, C ++ [y.2.2], .slice (some ⟨gh, 0, none⟩) (i + 1) caph, oh', .slice (some ⟨gc, 0, none⟩) (i + 1) capc, oc'⟩ ⟨by show i + 1 ≤ n; omega, FInv.nextT hF (hcy.ok (hok i hlt)) hown1 hown2 _ rfl (nn h3)⟩ (by show n - (i + 1) < n - i; omega) ⟨rfl, rfl, rfl, rfl, rfl, rfl, rfl, rfl, trivial⟩ (List.Sublist.cons_cons _ (List.Sublist.cons _ (List.Sublist.cons _ (List.Sublist.cons _ (List.Sublist.cons _ (List.Sublist.cons _ (List.Sublist.refl _)))))))
    · have hall : i = n := by (have := df h2; omega)
      have hm50 := Nat.mod_lt a (show 0 < 50 by decide)
      obtain ⟨hcap, hpc⟩ := OwnL_cap hF.oc
      replace hcap : i ≤ cc := hcap
      have hCl : C.length = i := hF.len
      refine cexit ?_
      refine nthenE ?_
      refine nIE ?_
      refine nblkE ?_
      refine nthen ?_
      refine cseq ?_
      refine creg ?_
      refine l1 (mvs rfl) ?_
      refine l1 (mvs rfl) ?_
      refine l1 (mvs rfl) ?_
      refine l1 (lens sl55 rfl rfl) ?_
      refine l1 (mvi rfl) ?_
      refine l1 (remn (r := ((a % 50 : Nat) : Int)) rfl rfl (by decide) (Int.ofNat_tmod _ _).symm) ?_
      refine l1 (cvn ⟨_, Try.underlying5⟩ Try.underlying3 rfl (ri (by omega) (by omega))) ?_
      refine l1 (min2n rfl rfl) ?_
      refine l1 (slhi (m := min i (a % 50)) Try.underlying55 Try.sizeOf59 rfl rfl (by omega) hpc) ?_
      refine lclm hb46 rfl (mc rfl (mc rfl mn)) (fun w' hw => fold_calls w' ph i ch (fun j => madeH (l j)) (by omega) (SlIn.sl (hF.oh.slInL (f := encH) (fun a => rfl) (fun j hj => ⟨madeH (l j), by have hj' : j < i := hj; simp [mH, List.getElem?_map, List.getElem?_range hj'], rfl⟩)) (hw.sub (List.Sublist.cons _ (List.sublist_append_left oh _)))) (fun j hj => madeIn w' _) (fun j hj => madeOk (hok j (by omega))) pc (min i (a % 50)) cc (ysC C) (SlIn.sl (SlIn.le (hF.oc.slInL (f := encC) (el := fun j => encC (ysC C j)) (fun a => rfl) (fun j hj => ⟨_, List.getElem?_eq_getElem (show j < C.length by omega), by unfold ysC; rw [List.getD_eq_getElem?_getD, List.getElem?_eq_getElem (show j < C.length by omega)]; rfl⟩)) (Nat.min_le_left _ _)) (hw.sub (List.Sublist.cons _ (List.Sublist.trans (List.sublist_append_left oc _) (List.sublist_append_right _ _))))) (fun j hj => hF.of j (by show j < i; omega))) ?_
      rintro r Hn ⟨K, hK, rfl, rfl⟩
      have hKe : K = cnt := hK.eq hF.stop
      have hgK : gAt (fun j => madeH (l j)) (ysC C) K = g := by rw [hKe]; exact hF.g.symm
      refine wl_nil ?_
      refine l1 (mv rfl) ?_
      refine l1 (ext (vs := [_, _]) rfl rfl) ?_
      refine l1 (ext (vs := [_, _]) rfl rfl) ?_
      refine lal (zs := encG zeroG) Try.zeroValue43 rfl (fun b15 => ?_)
      refine wl_perm (ins_perm 1 _ _) ?_
      refine lstw 1 rfl rfl rfl Try.sizeOf43 rfl rfl rfl ?_
      refine l1 (asgi rfl) ?_
      refine lnil ?_
      refine nthen ?_
      refine cseq ?_
      refine creg ?_
      refine l1 (mvi rfl) ?_
      refine l1 (mvi rfl) ?_
      refine l1 (eql rfl rfl) ?_
      refine l1 (mvb rfl) ?_
      refine l1g rfl (gwt rfl) (fun h => ldw 1 Try.isAgg43 Try.sizeOf43 rfl rfl rfl) ?_
      refine l1g rfl (gwt rfl) (fun h => ldw 0 Try.isAgg43 Try.sizeOf43 rfl rfl rfl) ?_
      refine l1g rfl (gwt rfl) (fun h => eqla (gvt h) (gvt h) (fun w => eql43 hgK w)) ?_
      refine l1 (pk_and rfl rfl rfl) ?_
      refine l1 (asgb rfl) ?_
      refine lnil ?_
      refine nthen ?_
      refine cret ?_
      exact fin1b rfl rfl (by first | rfl | (rw [hKe]; simp))

theorem foldsN (w : World) (p : Option Addr) (n c : Nat) (hn : (n : Int) ≤ 9223372036854775807) (l : Nat → Stp) (hl : Sl w p n 4 (fun i => encS (l i))) (hok : ∀ i, i < n → StpOk (l i)) (a : Int) (ha : 0 ≤ a ∧ a ≤ 255) : Calls Try.prog 12 #[.slice p n c, .int .u8 a] w (Ret (.bool true) w) := by
  have h := folds_law w p n c hn l hl hok a.toNat (by omega)
  rwa [Int.toNat_of_nonneg ha.1] at h
end Go.Proofs.Ytkdbjhlkahkobaa
