/- walks, printed by a program of ours -/
import Derived.Test.YtkdbjhlkahkobaaTy
import Derived.Test.YtkdbjhlkahkobaaDef
import Derived.Test.YtkdbjhlkahkobaaWz
namespace Go.Proofs.Ytkdbjhlkahkobaa
open Jal Go.RowKit
set_option maxRecDepth 100000
theorem rapply2_calls (g : Grp) (x : Hd) (y : Ct) (w : World) (hx : HdIn w x) (kx : HdOk x) (ky : CtOk y) : Calls Try.prog 43 #[.agg (encG g).toArray, .agg (encH x).toArray, .agg (encC y).toArray] w (Ret (encA (appG g x y)) w) := by
  have h := rapply_calls g x y w hx kx ky
  rwa [rapp_eq g x y kx ky] at h

set_option maxHeartbeats 2000000 in
theorem applies_law (w : World) (p : Option Addr) (n c : Nat) (hn : (n : Int) ≤ 9223372036854775807) (l : Nat → Stp) (hl : Sl w p n 4 (fun i => encS (l i))) (hok : ∀ i, i < n → StpOk (l i)) (p2 : Option Addr) (n2 c2 : Nat) (l2 : Nat → Hd) (hn2 : (n2 : Int) ≤ 9223372036854775807) (hl2 : Sl w p2 n2 125 (fun i => encH (l2 i))) (hx2 : ∀ i, i < n2 → HdIn w (l2 i)) (kx2 : ∀ i, i < n2 → HdOk (l2 i)) (p3 : Option Addr) (n3 c3 : Nat) (l3 : Nat → Ct) (hn3 : (n3 : Int) ≤ 9223372036854775807) (hl3 : Sl w p3 n3 10 (fun i => encC (l3 i))) (kx3 : ∀ i, i < n3 → CtOk (l3 i)) : Calls Try.prog 10 #[.slice p n c, .slice p2 n2 c2, .slice p3 n3 c3] w (Ret (.bool true) w) := by
  refine fn_calls (n := 123) Try.func10 rfl rfl (lb rfl) ?_
  refine cseq ?_
  refine creg ?_
  refine l1 (asgb rfl) ?_
  refine lnil ?_
  refine nthen ?_
  refine cseq ?_
  refine cseq ?_
  refine creg ?_
  refine l1 (cl hb31 rfl mn (fun w hw => awake17_calls w)) ?_
  refine l1 (nt rfl) ?_
  refine l1 (mvb rfl) ?_
  refine l1g rfl (gwf rfl) (fun h => mvs rfl) ?_
  refine l1g rfl (gwf rfl) (fun h => lens sl40 rfl (gvt h)) ?_
  refine l1g rfl (gwf rfl) (fun h => gtr (gvt h) rfl) ?_
  refine l1 (pk_or rfl rfl rfl) ?_
  refine l1 (mvb rfl) ?_
  refine l1g rfl (gwf rfl) (fun h => mvs rfl) ?_
  refine l1g rfl (gwf rfl) (fun h => lens sl54 rfl (gvt h)) ?_
  refine l1g rfl (gwf rfl) (fun h => gtr (gvt h) rfl) ?_
  refine l1 (pk_or rfl rfl rfl) ?_
  refine l1 (mvb rfl) ?_
  refine l1g rfl (gwf rfl) (fun h => mvs rfl) ?_
  refine l1g rfl (gwf rfl) (fun h => lens sl55 rfl (gvt h)) ?_
  refine l1g rfl (gwf rfl) (fun h => gtr (gvt h) rfl) ?_
  refine l1 (pk_or rfl rfl rfl) ?_
  refine lnil ?_
  refine nthen ?_
  refine cif rfl (fun h1 => ?_) (fun h1 => ?_)
  · skip
    refine cseq ?_
    refine creg ?_
    refine l1 (cl hb31 rfl mn (fun w hw => awake17_calls w)) ?_
    refine l1 (asgb rfl) ?_
    refine lnil ?_
    refine nthen ?_
    refine cret ?_
    refine nthenR ?_
    exact fin1 rfl rfl
  · skip
    refine cskip ?_
    refine nthen ?_
    refine cseq ?_
    refine creg ?_
    refine lal (zs := encG zeroG) Try.zeroValue43 rfl (fun b1 => ?_)
    refine lnil ?_
    refine nthen ?_
    refine cseq ?_
    refine cseq ?_
    refine creg ?_
    refine l1 (asgi rfl) ?_
    refine lnil ?_
    refine nthen ?_
    refine cblock ?_
    refine cloopI (σ := Nat × Grp) (fun s => [(0, .slice p n c), (1, .slice p2 n2 c2), (2, .slice p3 n3 c3), (7, .pointer (some ⟨b1, 0, none⟩)), (8, .int .i64 (s.1 : Int))]) (fun s => [⟨b1, encG s.2, 43⟩]) (fun s => s.1 ≤ n) (fun s => n - s.1) (0, zeroG) (Nat.zero_le _) ⟨rfl, rfl, rfl, rfl, rfl, trivial⟩ (List.Sublist.refl _) ?_
    rintro ⟨i, g⟩ j hi
    show WC _ _ _ ([⟨b1, encG g, 43⟩]) _ _ (over j [(0, .slice p n c), (1, .slice p2 n2 c2), (2, .slice p3 n3 c3), (7, .pointer (some ⟨b1, 0, none⟩)), (8, .int .i64 (i : Int))])
    replace hi : i ≤ n := hi
    refine cseq ?_
    refine cseq ?_
    refine creg ?_
    refine l1 (mvi rfl) ?_
    refine l1 (mvs rfl) ?_
    refine l1 (lens sl40 rfl rfl) ?_
    refine l1 (lss rfl rfl) ?_
    refine lnil ?_
    refine nthen ?_
    refine cif rfl (fun h2 => ?_) (fun h2 => ?_)
    · have hlt : i < n := by (have := dt h2; omega)
      obtain ⟨b, o, hp, hbl, hm⟩ := hl.at hlt
      refine cskip ?_
      refine nthen ?_
      refine cseq ?_
      refine cblock ?_
      refine cseq ?_
      refine ccut (Y := Nat × Nat × Ct) (fun y => ⟨b1, encG g, 43⟩ :: ⟨y.1, encH (madeH (l i)), 37⟩ :: ⟨y.2.1, encC y.2.2, 59⟩ :: []) (fun y => [(0, .slice p n c), (1, .slice p2 n2 c2), (2, .slice p3 n3 c3), (7, .pointer (some ⟨b1, 0, none⟩)), (8, .int .i64 (i : Int)), (9, .pointer (some ⟨y.1, 0, none⟩)), (10, .pointer (some ⟨y.2.1, 0, none⟩))]) (fun y => CtOf (l i) y.2.2) ?_ ?_
      · refine cregH (fun (_ : Unit) => ⟨b1, encG g, 43⟩ :: []) 13 mo rfl ?_
        refine hq1 0 rfl (by kernel_rfl) (by kernel_rfl) (by kernel_rfl) (fun c a w h => h) (.inl ⟨_, rfl⟩) (fun w hw => ⟨(), hw.sub (List.Sublist.cons_cons _ (List.nil_sublist _))⟩) (fun T => ldw 0 Try.isAgg43 Try.sizeOf43 rfl rfl rfl) ?_
        refine hq1 1 rfl (by kernel_rfl) (by kernel_rfl) (by kernel_rfl) (fun c a w h => h) (.inr ⟨_, rfl⟩) (fun w hw => ⟨(), hw.sub (List.Sublist.cons_cons _ (List.nil_sublist _))⟩) (fun T => mvs rfl) ?_
        refine hq1 2 rfl (by kernel_rfl) (by kernel_rfl) (by kernel_rfl) (fun c a w h => h) (.inr ⟨_, rfl⟩) (fun w hw => ⟨(), hw.sub (List.Sublist.cons_cons _ (List.nil_sublist _))⟩) (fun T => mvi rfl) ?_
        refine hq1 3 rfl (by kernel_rfl) (by kernel_rfl) (by kernel_rfl) (fun c a w h => h) (.inl ⟨_, rfl⟩) (fun w hw => ⟨(), hw.sub (List.Sublist.cons_cons _ (List.nil_sublist _))⟩) (fun T => isp sl40 hp rfl rfl (by omega) (by omega)) ?_
        refine hq1 4 rfl (by kernel_rfl) (by kernel_rfl) (by kernel_rfl) (fun c a w h => h) (.inl ⟨_, rfl⟩) (fun w hw => ⟨(), hw.sub (List.Sublist.cons_cons _ (List.nil_sublist _))⟩) (fun T => ldam (vs := encS (l i)) Try.isAgg45 Try.sizeOf45 rfl rfl (fun w' hw => (hm i hlt).kept hw.below hbl)) ?_
        refine hem3 5 9 10 (by kernel_rfl) rfl rfl rfl ?_ ?_ ?_
        · skip
          refine lclm hb40 rfl (mc rfl (mc rfl mn)) (fun w' hw => made_calls g (l i) (hok i hlt) w') ?_
          rintro r Hn ⟨c, rfl, rfl, hc⟩
          refine wl_nil ?_
          refine hnil (fun w hw => ⟨(), hw.sub (List.Sublist.cons_cons _ (List.nil_sublist _))⟩) ?_
          refine hq1 6 rfl (by kernel_rfl) (by kernel_rfl) (by kernel_rfl) (fun c a w h => h) (.inr ⟨_, rfl⟩) (fun w hw => ⟨(), hw.sub (List.Sublist.cons_cons _ (List.nil_sublist _))⟩) (fun T => mv rfl) ?_
          refine hq1 7 rfl (by kernel_rfl) (by kernel_rfl) (by kernel_rfl) (fun c a w h => h) (.inl ⟨_, rfl⟩) (fun w hw => ⟨(), hw.sub (List.Sublist.cons_cons _ (List.nil_sublist _))⟩) (fun T => ext (vs := [.agg (encH (madeH (l i))).toArray, .agg (encC c).toArray]) rfl rfl) ?_
          refine hq1 8 rfl (by kernel_rfl) (by kernel_rfl) (by kernel_rfl) (fun c a w h => h) (.inl ⟨_, rfl⟩) (fun w hw => ⟨(), hw.sub (List.Sublist.cons_cons _ (List.nil_sublist _))⟩) (fun T => ext (vs := [.agg (encH (madeH (l i))).toArray, .agg (encC c).toArray]) rfl rfl) ?_
          refine hem2 9 10 (by kernel_rfl) rfl rfl ?_ ?_
          · skip
            refine lal (zs := encH hz) Try.zeroValue37 rfl (fun b2 => ?_)
            refine hnil (fun w hw => ⟨(), hw.sub (List.Sublist.cons_cons _ (List.nil_sublist _))⟩) ?_
            refine he 10 (by kernel_rfl) rfl ?_
            refine lal (zs := encC zeroC) Try.zeroValue59 rfl (fun b3 => ?_)
            refine hnil (fun w hw => ⟨(), hw.sub (List.Sublist.cons_cons _ (List.nil_sublist _))⟩) ?_
            refine he 11 (by kernel_rfl) rfl ?_
            refine lstw 1 rfl rfl rfl Try.sizeOf37 rfl rfl rfl ?_
            refine hnil (fun w hw => ⟨(), hw.sub (List.Sublist.cons_cons _ (List.nil_sublist _))⟩) ?_
            refine he 12 (by kernel_rfl) rfl ?_
            refine lstw 2 rfl rfl rfl Try.sizeOf59 rfl rfl rfl ?_
            refine hnil (fun w hw => ⟨(), hw.sub (List.Sublist.cons_cons _ (List.nil_sublist _))⟩) ?_
            refine hend (by kernel_rfl) ?_
            exact nCut (b2, b3, c) hc ⟨rfl, rfl, rfl, rfl, rfl, rfl, rfl, trivial⟩ ⟨_, List.Perm.refl _, List.Sublist.refl _⟩
          · skip
            refine lal (zs := encC zeroC) Try.zeroValue59 rfl (fun b4 => ?_)
            refine hnil (fun w hw => ⟨(), hw.sub (List.Sublist.cons_cons _ (List.nil_sublist _))⟩) ?_
            refine he 9 (by kernel_rfl) rfl ?_
            refine lal (zs := encH hz) Try.zeroValue37 rfl (fun b5 => ?_)
            refine hnil (fun w hw => ⟨(), hw.sub (List.Sublist.cons_cons _ (List.nil_sublist _))⟩) ?_
            refine he 11 (by kernel_rfl) rfl ?_
            refine lstw 2 rfl rfl rfl Try.sizeOf37 rfl rfl rfl ?_
            refine hnil (fun w hw => ⟨(), hw.sub (List.Sublist.cons_cons _ (List.nil_sublist _))⟩) ?_
            refine he 12 (by kernel_rfl) rfl ?_
            refine lstw 1 rfl rfl rfl Try.sizeOf59 rfl rfl rfl ?_
            refine hnil (fun w hw => ⟨(), hw.sub (List.Sublist.cons_cons _ (List.nil_sublist _))⟩) ?_
            refine hend (by kernel_rfl) ?_
            exact nCut (b5, b4, c) hc ⟨rfl, rfl, rfl, rfl, rfl, rfl, rfl, trivial⟩ ⟨_, List.Perm.cons _ (List.Perm.swap _ _ _), List.Sublist.refl _⟩
        · skip
          refine lal (zs := encH hz) Try.zeroValue37 rfl (fun b6 => ?_)
          refine hnil (fun w hw => ⟨(), hw.sub (List.Sublist.cons_cons _ (List.nil_sublist _))⟩) ?_
          refine hem2 5 10 (by kernel_rfl) rfl rfl ?_ ?_
          · skip
            refine lclm hb40 rfl (mc rfl (mc rfl mn)) (fun w' hw => made_calls g (l i) (hok i hlt) w') ?_
            rintro r Hn ⟨c, rfl, rfl, hc⟩
            refine wl_nil ?_
            refine hnil (fun w hw => ⟨(), hw.sub (List.Sublist.cons_cons _ (List.nil_sublist _))⟩) ?_
            refine hq1 6 rfl (by kernel_rfl) (by kernel_rfl) (by kernel_rfl) (fun c a w h => h) (.inr ⟨_, rfl⟩) (fun w hw => ⟨(), hw.sub (List.Sublist.cons_cons _ (List.nil_sublist _))⟩) (fun T => mv rfl) ?_
            refine hq1 7 rfl (by kernel_rfl) (by kernel_rfl) (by kernel_rfl) (fun c a w h => h) (.inl ⟨_, rfl⟩) (fun w hw => ⟨(), hw.sub (List.Sublist.cons_cons _ (List.nil_sublist _))⟩) (fun T => ext (vs := [.agg (encH (madeH (l i))).toArray, .agg (encC c).toArray]) rfl rfl) ?_
            refine hq1 8 rfl (by kernel_rfl) (by kernel_rfl) (by kernel_rfl) (fun c a w h => h) (.inl ⟨_, rfl⟩) (fun w hw => ⟨(), hw.sub (List.Sublist.cons_cons _ (List.nil_sublist _))⟩) (fun T => ext (vs := [.agg (encH (madeH (l i))).toArray, .agg (encC c).toArray]) rfl rfl) ?_
            refine he 10 (by kernel_rfl) rfl ?_
            refine lal (zs := encC zeroC) Try.zeroValue59 rfl (fun b7 => ?_)
            refine hnil (fun w hw => ⟨(), hw.sub (List.Sublist.cons_cons _ (List.nil_sublist _))⟩) ?_
            refine he 11 (by kernel_rfl) rfl ?_
            refine lstw 1 rfl rfl rfl Try.sizeOf37 rfl rfl rfl ?_
            refine hnil (fun w hw => ⟨(), hw.sub (List.Sublist.cons_cons _ (List.nil_sublist _))⟩) ?_
            refine he 12 (by kernel_rfl) rfl ?_
            refine lstw 2 rfl rfl rfl Try.sizeOf59 rfl rfl rfl ?_
            refine hnil (fun w hw => ⟨(), hw.sub (List.Sublist.cons_cons _ (List.nil_sublist _))⟩) ?_
            refine hend (by kernel_rfl) ?_
            exact nCut (b6, b7, c) hc ⟨rfl, rfl, rfl, rfl, rfl, rfl, rfl, trivial⟩ ⟨_, List.Perm.refl _, List.Sublist.refl _⟩
          · skip
            refine lal (zs := encC zeroC) Try.zeroValue59 rfl (fun b8 => ?_)
            refine hnil (fun w hw => ⟨(), hw.sub (List.Sublist.cons_cons _ (List.nil_sublist _))⟩) ?_
            refine he 5 (by kernel_rfl) rfl ?_
            refine lclm hb40 rfl (mc rfl (mc rfl mn)) (fun w' hw => made_calls g (l i) (hok i hlt) w') ?_
            rintro r Hn ⟨c, rfl, rfl, hc⟩
            refine wl_nil ?_
            refine hnil (fun w hw => ⟨(), hw.sub (List.Sublist.cons_cons _ (List.nil_sublist _))⟩) ?_
            refine hq1 6 rfl (by kernel_rfl) (by kernel_rfl) (by kernel_rfl) (fun c a w h => h) (.inr ⟨_, rfl⟩) (fun w hw => ⟨(), hw.sub (List.Sublist.cons_cons _ (List.nil_sublist _))⟩) (fun T => mv rfl) ?_
            refine hq1 7 rfl (by kernel_rfl) (by kernel_rfl) (by kernel_rfl) (fun c a w h => h) (.inl ⟨_, rfl⟩) (fun w hw => ⟨(), hw.sub (List.Sublist.cons_cons _ (List.nil_sublist _))⟩) (fun T => ext (vs := [.agg (encH (madeH (l i))).toArray, .agg (encC c).toArray]) rfl rfl) ?_
            refine hq1 8 rfl (by kernel_rfl) (by kernel_rfl) (by kernel_rfl) (fun c a w h => h) (.inl ⟨_, rfl⟩) (fun w hw => ⟨(), hw.sub (List.Sublist.cons_cons _ (List.nil_sublist _))⟩) (fun T => ext (vs := [.agg (encH (madeH (l i))).toArray, .agg (encC c).toArray]) rfl rfl) ?_
            refine he 11 (by kernel_rfl) rfl ?_
            refine lstw 1 rfl rfl rfl Try.sizeOf37 rfl rfl rfl ?_
            refine hnil (fun w hw => ⟨(), hw.sub (List.Sublist.cons_cons _ (List.nil_sublist _))⟩) ?_
            refine he 12 (by kernel_rfl) rfl ?_
            refine lstw 2 rfl rfl rfl Try.sizeOf59 rfl rfl rfl ?_
            refine hnil (fun w hw => ⟨(), hw.sub (List.Sublist.cons_cons _ (List.nil_sublist _))⟩) ?_
            refine hend (by kernel_rfl) ?_
            exact nCut (b6, b8, c) hc ⟨rfl, rfl, rfl, rfl, rfl, rfl, rfl, trivial⟩ ⟨_, List.Perm.refl _, List.Sublist.refl _⟩
        · skip
          refine lal (zs := encC zeroC) Try.zeroValue59 rfl (fun b9 => ?_)
          refine hnil (fun w hw => ⟨(), hw.sub (List.Sublist.cons_cons _ (List.nil_sublist _))⟩) ?_
          refine hem2 5 9 (by kernel_rfl) rfl rfl ?_ ?_
          · skip
            refine lclm hb40 rfl (mc rfl (mc rfl mn)) (fun w' hw => made_calls g (l i) (hok i hlt) w') ?_
            rintro r Hn ⟨c, rfl, rfl, hc⟩
            refine wl_nil ?_
            refine hnil (fun w hw => ⟨(), hw.sub (List.Sublist.cons_cons _ (List.nil_sublist _))⟩) ?_
            refine hq1 6 rfl (by kernel_rfl) (by kernel_rfl) (by kernel_rfl) (fun c a w h => h) (.inr ⟨_, rfl⟩) (fun w hw => ⟨(), hw.sub (List.Sublist.cons_cons _ (List.nil_sublist _))⟩) (fun T => mv rfl) ?_
            refine hq1 7 rfl (by kernel_rfl) (by kernel_rfl) (by kernel_rfl) (fun c a w h => h) (.inl ⟨_, rfl⟩) (fun w hw => ⟨(), hw.sub (List.Sublist.cons_cons _ (List.nil_sublist _))⟩) (fun T => ext (vs := [.agg (encH (madeH (l i))).toArray, .agg (encC c).toArray]) rfl rfl) ?_
            refine hq1 8 rfl (by kernel_rfl) (by kernel_rfl) (by kernel_rfl) (fun c a w h => h) (.inl ⟨_, rfl⟩) (fun w hw => ⟨(), hw.sub (List.Sublist.cons_cons _ (List.nil_sublist _))⟩) (fun T => ext (vs := [.agg (encH (madeH (l i))).toArray, .agg (encC c).toArray]) rfl rfl) ?_
            refine he 9 (by kernel_rfl) rfl ?_
            refine lal (zs := encH hz) Try.zeroValue37 rfl (fun b10 => ?_)
            refine hnil (fun w hw => ⟨(), hw.sub (List.Sublist.cons_cons _ (List.nil_sublist _))⟩) ?_
            refine he 11 (by kernel_rfl) rfl ?_
            refine lstw 2 rfl rfl rfl Try.sizeOf37 rfl rfl rfl ?_
            refine hnil (fun w hw => ⟨(), hw.sub (List.Sublist.cons_cons _ (List.nil_sublist _))⟩) ?_
            refine he 12 (by kernel_rfl) rfl ?_
            refine lstw 1 rfl rfl rfl Try.sizeOf59 rfl rfl rfl ?_
            refine hnil (fun w hw => ⟨(), hw.sub (List.Sublist.cons_cons _ (List.nil_sublist _))⟩) ?_
            refine hend (by kernel_rfl) ?_
            exact nCut (b10, b9, c) hc ⟨rfl, rfl, rfl, rfl, rfl, rfl, rfl, trivial⟩ ⟨_, List.Perm.cons _ (List.Perm.swap _ _ _), List.Sublist.refl _⟩
          · skip
            refine lal (zs := encH hz) Try.zeroValue37 rfl (fun b11 => ?_)
            refine hnil (fun w hw => ⟨(), hw.sub (List.Sublist.cons_cons _ (List.nil_sublist _))⟩) ?_
            refine he 5 (by kernel_rfl) rfl ?_
            refine lclm hb40 rfl (mc rfl (mc rfl mn)) (fun w' hw => made_calls g (l i) (hok i hlt) w') ?_
            rintro r Hn ⟨c, rfl, rfl, hc⟩
            refine wl_nil ?_
            refine hnil (fun w hw => ⟨(), hw.sub (List.Sublist.cons_cons _ (List.nil_sublist _))⟩) ?_
            refine hq1 6 rfl (by kernel_rfl) (by kernel_rfl) (by kernel_rfl) (fun c a w h => h) (.inr ⟨_, rfl⟩) (fun w hw => ⟨(), hw.sub (List.Sublist.cons_cons _ (List.nil_sublist _))⟩) (fun T => mv rfl) ?_
            refine hq1 7 rfl (by kernel_rfl) (by kernel_rfl) (by kernel_rfl) (fun c a w h => h) (.inl ⟨_, rfl⟩) (fun w hw => ⟨(), hw.sub (List.Sublist.cons_cons _ (List.nil_sublist _))⟩) (fun T => ext (vs := [.agg (encH (madeH (l i))).toArray, .agg (encC c).toArray]) rfl rfl) ?_
            refine hq1 8 rfl (by kernel_rfl) (by kernel_rfl) (by kernel_rfl) (fun c a w h => h) (.inl ⟨_, rfl⟩) (fun w hw => ⟨(), hw.sub (List.Sublist.cons_cons _ (List.nil_sublist _))⟩) (fun T => ext (vs := [.agg (encH (madeH (l i))).toArray, .agg (encC c).toArray]) rfl rfl) ?_
            refine he 11 (by kernel_rfl) rfl ?_
            refine lstw 2 rfl rfl rfl Try.sizeOf37 rfl rfl rfl ?_
            refine hnil (fun w hw => ⟨(), hw.sub (List.Sublist.cons_cons _ (List.nil_sublist _))⟩) ?_
            refine he 12 (by kernel_rfl) rfl ?_
            refine lstw 1 rfl rfl rfl Try.sizeOf59 rfl rfl rfl ?_
            refine hnil (fun w hw => ⟨(), hw.sub (List.Sublist.cons_cons _ (List.nil_sublist _))⟩) ?_
            refine hend (by kernel_rfl) ?_
            exact nCut (b11, b9, c) hc ⟨rfl, rfl, rfl, rfl, rfl, rfl, rfl, trivial⟩ ⟨_, List.Perm.cons _ (List.Perm.swap _ _ _), List.Sublist.refl _⟩
      · intro y j hcy
        refine nthen ?_
        refine cseq ?_
        refine cseq ?_
        refine creg ?_
        refine l1 (mvi rfl) ?_
        refine l1 (mvs rfl) ?_
        refine l1 (lens sl54 rfl rfl) ?_
        refine l1 (lss rfl rfl) ?_
        refine l1 (mvb rfl) ?_
        refine l1g rfl (gwt rfl) (fun h => mvs rfl) ?_
        refine l1g rfl (gwt rfl) (fun h => mvi rfl) ?_
        refine l1g rfl (gwt rfl) (fun h => isp (b := pb p2) (o := po p2) sl54 (hl2.hp (i := i) (by first | omega | (simp at h; omega))) (gvt h) (gvt h) (by omega) (by first | omega | (simp at h; omega))) ?_
        refine l1g rfl (gwt rfl) (fun h => fa fa37_7 (gvt h)) ?_
        refine l1g rfl (gwt rfl) (fun h => ldm (v := .slice (l2 i).tp (l2 i).tn (l2 i).tc) Try.isAgg35 (gvt h) (fun w' hw => (hl2.memP (i := i) (by first | omega | (simp at h; omega)) hw.below).at (encH_tokens _))) ?_
        refine l1g rfl (gwt rfl) (fun h => lens sl35 rfl (gvt h)) ?_
        refine l1g rfl (gwt rfl) (fun h => leq (gvt h) rfl) ?_
        refine l1 (pk_and rfl rfl rfl) ?_
        refine l1 (mvb rfl) ?_
        refine l1g rfl (gwt rfl) (fun h => mvs rfl) ?_
        refine l1g rfl (gwt rfl) (fun h => mvi rfl) ?_
        refine l1g rfl (gwt rfl) (fun h => isp (b := pb p2) (o := po p2) sl54 (hl2.hp (i := i) (by first | omega | (simp at h; omega))) (gvt h) (gvt h) (by omega) (by first | omega | (simp at h; omega))) ?_
        refine l1g rfl (gwt rfl) (fun h => fa fa37_1 (gvt h)) ?_
        refine l1g rfl (gwt rfl) (fun h => ldm (v := .int .u64 (l2 i).seq) Try.isAgg22 (gvt h) (fun w' hw => (hl2.memP (i := i) (by first | omega | (simp at h; omega)) hw.below).at (encH_seq _))) ?_
        refine l1g rfl (gwt rfl) (fun h => remn (gvt h) rfl (by decide) rfl) ?_
        refine l1g rfl (gwt rfl) (fun h => eql (gvt h) rfl) ?_
        refine l1 (pk_and rfl rfl rfl) ?_
        refine lnil ?_
        refine nthen ?_
        refine cif rfl (fun h3 => ?_) (fun h3 => ?_)
        · have hh : i < n2 ∧ True := by (simp at h3; exact ⟨by omega, trivial⟩)
          have hlq := hh.1
          refine creg ?_
          refine l1 (mvs rfl) ?_
          refine l1 (mvi rfl) ?_
          refine l1 (isp (b := pb p2) (o := po p2) sl54 (hl2.hp (i := i) hlq) rfl rfl (by omega) (by omega)) ?_
          refine l1 (ldam (vs := encH (l2 i)) Try.isAgg37 Try.sizeOf37 rfl rfl (fun w' hw => hl2.memP hh.1 hw.below)) ?_
          refine lstw 1 rfl rfl rfl Try.sizeOf37 rfl rfl rfl ?_
          refine lnil ?_
          refine nthen ?_
          refine cseq ?_
          refine cseq ?_
          refine creg ?_
          refine l1 (mvi rfl) ?_
          refine l1 (mvs rfl) ?_
          refine l1 (lens sl55 rfl rfl) ?_
          refine l1 (lss rfl rfl) ?_
          refine l1 (mvb rfl) ?_
          refine l1g rfl (gwt rfl) (fun h => mvs rfl) ?_
          refine l1g rfl (gwt rfl) (fun h => mvi rfl) ?_
          refine l1g rfl (gwt rfl) (fun h => isp (b := pb p3) (o := po p3) sl55 (hl3.hp (i := i) (by first | omega | (simp at h; omega))) (gvt h) (gvt h) (by omega) (by first | omega | (simp at h; omega))) ?_
          refine l1g rfl (gwt rfl) (fun h => ldam (vs := encC (l3 i)) Try.isAgg59 Try.sizeOf59 (gvt h) rfl (fun w' hw => hl3.memP (i := i) (by first | omega | (simp at h; omega)) hw.below)) ?_
          refine l1g rfl (gwt rfl) (fun h => cl hb41 rfl (mc (gvt h) mn) (fun w hw => fewC_calls _ w)) ?_
          refine l1 (pk_and rfl rfl rfl) ?_
          refine l1 (mvb rfl) ?_
          refine l1g rfl (gwt rfl) (fun h => mvs rfl) ?_
          refine l1g rfl (gwt rfl) (fun h => mvi rfl) ?_
          refine l1g rfl (gwt rfl) (fun h => isp (b := pb p3) (o := po p3) sl55 (hl3.hp (i := i) (by first | omega | (simp at h; omega))) (gvt h) (gvt h) (by omega) (by first | omega | (simp at h; omega))) ?_
          refine l1g rfl (gwt rfl) (fun h => fa fa59_2 (gvt h)) ?_
          refine l1g rfl (gwt rfl) (fun h => ldm (v := .int .u64 (l3 i).cut) Try.isAgg22 (gvt h) (fun w' hw => (hl3.memP (i := i) (by first | omega | (simp at h; omega)) hw.below).at (show (encC (l3 i))[2]? = _ from rfl))) ?_
          refine l1g rfl (gwt rfl) (fun h => remn (gvt h) rfl (by decide) rfl) ?_
          refine l1g rfl (gwt rfl) (fun h => eql (gvt h) rfl) ?_
          refine l1 (pk_and rfl rfl rfl) ?_
          refine lnil ?_
          refine nthen ?_
          refine cif rfl (fun h4 => ?_) (fun h4 => ?_)
          · have hk : i < n3 ∧ True := by (simp at h4; exact ⟨by omega, trivial⟩)
            have hlq := hk.1
            refine creg ?_
            refine l1 (mvs rfl) ?_
            refine l1 (mvi rfl) ?_
            refine l1 (isp (b := pb p3) (o := po p3) sl55 (hl3.hp (i := i) hlq) rfl rfl (by omega) (by omega)) ?_
            refine l1 (ldam (vs := encC (l3 i)) Try.isAgg59 Try.sizeOf59 rfl rfl (fun w' hw => hl3.memP hk.1 hw.below)) ?_
            refine lstw 2 rfl rfl rfl Try.sizeOf59 rfl rfl rfl ?_
            refine lnil ?_
            refine nthen ?_
            refine cseq ?_
            refine creg ?_
            refine l1 (ldw 0 Try.isAgg43 Try.sizeOf43 rfl rfl rfl) ?_
            refine l1 (ldw 1 Try.isAgg37 Try.sizeOf37 rfl rfl rfl) ?_
            refine l1 (ldw 2 Try.isAgg59 Try.sizeOf59 rfl rfl rfl) ?_
            refine l1 (cl hb42 rfl (mc rfl (mc rfl (mc rfl mn))) (fun w' hw => (by first | exact apply_calls _ _ _ w' (Sl.keptS (hx2 i hh.1) hw) (kx2 i hh.1) (kx3 i hk.1) | exact apply_calls _ _ _ w' (Sl.keptS (hx2 i hh.1) hw) (kx2 i hh.1) (hcy.ok (hok i hlt)) | exact apply_calls _ _ _ w' (madeIn w' _) (madeOk (hok i hlt)) (kx3 i hk.1) | exact apply_calls _ _ _ w' (madeIn w' _) (madeOk (hok i hlt)) (hcy.ok (hok i hlt))))) ?_
            refine l1 (mv rfl) ?_
            refine l1 (ext (vs := [_, _]) rfl rfl) ?_
            refine l1 (ext (vs := [_, _]) rfl rfl) ?_
            refine lal (zs := encG zeroG) Try.zeroValue43 rfl (fun b12 => ?_)
            refine lstw 3 rfl rfl rfl Try.sizeOf43 rfl rfl rfl ?_
            refine l1 (asgi rfl) ?_
            refine lnil ?_
            refine nthen ?_
            refine cseq ?_
            refine creg ?_
            refine l1 (ldw 0 Try.isAgg43 Try.sizeOf43 rfl rfl rfl) ?_
            refine l1 (ldw 1 Try.isAgg37 Try.sizeOf37 rfl rfl rfl) ?_
            refine l1 (ldw 2 Try.isAgg59 Try.sizeOf59 rfl rfl rfl) ?_
            refine l1 (cl hb43 rfl (mc rfl (mc rfl (mc rfl mn))) (fun w' hw => (by first | exact rapply2_calls _ _ _ w' (Sl.keptS (hx2 i hh.1) hw) (kx2 i hh.1) (kx3 i hk.1) | exact rapply2_calls _ _ _ w' (Sl.keptS (hx2 i hh.1) hw) (kx2 i hh.1) (hcy.ok (hok i hlt)) | exact rapply2_calls _ _ _ w' (madeIn w' _) (madeOk (hok i hlt)) (kx3 i hk.1) | exact rapply2_calls _ _ _ w' (madeIn w' _) (madeOk (hok i hlt)) (hcy.ok (hok i hlt))))) ?_
            refine l1 (mv rfl) ?_
            refine l1 (ext (vs := [_, _]) rfl rfl) ?_
            refine l1 (ext (vs := [_, _]) rfl rfl) ?_
            refine lal (zs := encG zeroG) Try.zeroValue43 rfl (fun b13 => ?_)
            refine lstw 4 rfl rfl rfl Try.sizeOf43 rfl rfl rfl ?_
            refine l1 (asgi rfl) ?_
            refine lnil ?_
            refine nthen ?_
            refine cseq ?_
            refine cseq ?_
            refine creg ?_
            refine l1 (mvi rfl) ?_
            refine l1 (mvi rfl) ?_
            refine l1 (neq rfl rfl) ?_
            refine l1 (mvb rfl) ?_
            refine l1g rfl (gwf rfl) (fun h => ldw 3 Try.isAgg43 Try.sizeOf43 rfl rfl rfl) ?_
            refine l1g rfl (gwf rfl) (fun h => ldw 4 Try.isAgg43 Try.sizeOf43 rfl rfl rfl) ?_
            refine l1g rfl (gwf rfl) (fun h => neqa (gvt h) (gvt h) (fun w => neq43 rfl w)) ?_
            refine l1 (pk_or rfl rfl rfl) ?_
            refine lnil ?_
            refine nthen ?_
            refine ciff (bf rfl (by simp)) ?_
            refine cskip ?_
            refine nthen ?_
            refine cseq ?_
            refine creg ?_
            refine l1 (mvi rfl) ?_
            refine l1 (eql rfl rfl) ?_
            refine lnil ?_
            refine nthen ?_
            refine cif rfl (fun h5 => ?_) (fun h5 => ?_)
            · skip
              refine creg ?_
              refine l1 (ldw 3 Try.isAgg43 Try.sizeOf43 rfl rfl rfl) ?_
              refine lstw 0 rfl rfl rfl Try.sizeOf43 rfl rfl rfl ?_
              refine lnil ?_
              refine nblkN ?_
              refine nthen ?_
              refine creg ?_
              refine l1 (mvi rfl) ?_
              first | refine l1 (addn rfl rfl (ri (by omega) (by omega))) ?_ | refine l1 (add rfl rfl) ?_
              refine l1 (asgi rfl) ?_
              refine lnil ?_
              first | exact nI (i + 1, (appG g (l2 i) (l3 i)).1) (by show i + 1 ≤ n; omega) (by show n - (i + 1) < n - i; omega) ⟨rfl, rfl, rfl, rfl, rfl, trivial⟩ (List.Sublist.cons_cons _ (List.nil_sublist _)) | exact nI (i + 1, (appG g (l2 i) y.2.2).1) (by show i + 1 ≤ n; omega) (by show n - (i + 1) < n - i; omega) ⟨rfl, rfl, rfl, rfl, rfl, trivial⟩ (List.Sublist.cons_cons _ (List.nil_sublist _)) | exact nI (i + 1, (appG g (madeH (l i)) (l3 i)).1) (by show i + 1 ≤ n; omega) (by show n - (i + 1) < n - i; omega) ⟨rfl, rfl, rfl, rfl, rfl, trivial⟩ (List.Sublist.cons_cons _ (List.nil_sublist _)) | exact nI (i + 1, (appG g (madeH (l i)) y.2.2).1) (by show i + 1 ≤ n; omega) (by show n - (i + 1) < n - i; omega) ⟨rfl, rfl, rfl, rfl, rfl, trivial⟩ (List.Sublist.cons_cons _ (List.nil_sublist _)) | exact nI (i + 1, g) (by show i + 1 ≤ n; omega) (by show n - (i + 1) < n - i; omega) ⟨rfl, rfl, rfl, rfl, rfl, trivial⟩ (List.Sublist.cons_cons _ (List.nil_sublist _))
            · skip
              refine cskip ?_
              refine nblkN ?_
              refine nthen ?_
              refine creg ?_
              refine l1 (mvi rfl) ?_
              first | refine l1 (addn rfl rfl (ri (by omega) (by omega))) ?_ | refine l1 (add rfl rfl) ?_
              refine l1 (asgi rfl) ?_
              refine lnil ?_
              first | exact nI (i + 1, (appG g (l2 i) (l3 i)).1) (by show i + 1 ≤ n; omega) (by show n - (i + 1) < n - i; omega) ⟨rfl, rfl, rfl, rfl, rfl, trivial⟩ (List.Sublist.cons_cons _ (List.nil_sublist _)) | exact nI (i + 1, (appG g (l2 i) y.2.2).1) (by show i + 1 ≤ n; omega) (by show n - (i + 1) < n - i; omega) ⟨rfl, rfl, rfl, rfl, rfl, trivial⟩ (List.Sublist.cons_cons _ (List.nil_sublist _)) | exact nI (i + 1, (appG g (madeH (l i)) (l3 i)).1) (by show i + 1 ≤ n; omega) (by show n - (i + 1) < n - i; omega) ⟨rfl, rfl, rfl, rfl, rfl, trivial⟩ (List.Sublist.cons_cons _ (List.nil_sublist _)) | exact nI (i + 1, (appG g (madeH (l i)) y.2.2).1) (by show i + 1 ≤ n; omega) (by show n - (i + 1) < n - i; omega) ⟨rfl, rfl, rfl, rfl, rfl, trivial⟩ (List.Sublist.cons_cons _ (List.nil_sublist _)) | exact nI (i + 1, g) (by show i + 1 ≤ n; omega) (by show n - (i + 1) < n - i; omega) ⟨rfl, rfl, rfl, rfl, rfl, trivial⟩ (List.Sublist.cons_cons _ (List.nil_sublist _))
          · skip
            refine cskip ?_
            refine nthen ?_
            refine cseq ?_
            refine creg ?_
            refine l1 (ldw 0 Try.isAgg43 Try.sizeOf43 rfl rfl rfl) ?_
            refine l1 (ldw 1 Try.isAgg37 Try.sizeOf37 rfl rfl rfl) ?_
            refine l1 (ldw 2 Try.isAgg59 Try.sizeOf59 rfl rfl rfl) ?_
            refine l1 (cl hb42 rfl (mc rfl (mc rfl (mc rfl mn))) (fun w' hw => (by first | exact apply_calls _ _ _ w' (Sl.keptS (hx2 i hh.1) hw) (kx2 i hh.1) (kx3 i hk.1) | exact apply_calls _ _ _ w' (Sl.keptS (hx2 i hh.1) hw) (kx2 i hh.1) (hcy.ok (hok i hlt)) | exact apply_calls _ _ _ w' (madeIn w' _) (madeOk (hok i hlt)) (kx3 i hk.1) | exact apply_calls _ _ _ w' (madeIn w' _) (madeOk (hok i hlt)) (hcy.ok (hok i hlt))))) ?_
            refine l1 (mv rfl) ?_
            refine l1 (ext (vs := [_, _]) rfl rfl) ?_
            refine l1 (ext (vs := [_, _]) rfl rfl) ?_
            refine lal (zs := encG zeroG) Try.zeroValue43 rfl (fun b14 => ?_)
            refine lstw 3 rfl rfl rfl Try.sizeOf43 rfl rfl rfl ?_
            refine l1 (asgi rfl) ?_
            refine lnil ?_
            refine nthen ?_
            refine cseq ?_
            refine creg ?_
            refine l1 (ldw 0 Try.isAgg43 Try.sizeOf43 rfl rfl rfl) ?_
            refine l1 (ldw 1 Try.isAgg37 Try.sizeOf37 rfl rfl rfl) ?_
            refine l1 (ldw 2 Try.isAgg59 Try.sizeOf59 rfl rfl rfl) ?_
            refine l1 (cl hb43 rfl (mc rfl (mc rfl (mc rfl mn))) (fun w' hw => (by first | exact rapply2_calls _ _ _ w' (Sl.keptS (hx2 i hh.1) hw) (kx2 i hh.1) (kx3 i hk.1) | exact rapply2_calls _ _ _ w' (Sl.keptS (hx2 i hh.1) hw) (kx2 i hh.1) (hcy.ok (hok i hlt)) | exact rapply2_calls _ _ _ w' (madeIn w' _) (madeOk (hok i hlt)) (kx3 i hk.1) | exact rapply2_calls _ _ _ w' (madeIn w' _) (madeOk (hok i hlt)) (hcy.ok (hok i hlt))))) ?_
            refine l1 (mv rfl) ?_
            refine l1 (ext (vs := [_, _]) rfl rfl) ?_
            refine l1 (ext (vs := [_, _]) rfl rfl) ?_
            refine lal (zs := encG zeroG) Try.zeroValue43 rfl (fun b15 => ?_)
            refine lstw 4 rfl rfl rfl Try.sizeOf43 rfl rfl rfl ?_
            refine l1 (asgi rfl) ?_
            refine lnil ?_
            refine nthen ?_
            refine cseq ?_
            refine cseq ?_
            refine creg ?_
            refine l1 (mvi rfl) ?_
            refine l1 (mvi rfl) ?_
            refine l1 (neq rfl rfl) ?_
            refine l1 (mvb rfl) ?_
            refine l1g rfl (gwf rfl) (fun h => ldw 3 Try.isAgg43 Try.sizeOf43 rfl rfl rfl) ?_
            refine l1g rfl (gwf rfl) (fun h => ldw 4 Try.isAgg43 Try.sizeOf43 rfl rfl rfl) ?_
            refine l1g rfl (gwf rfl) (fun h => neqa (gvt h) (gvt h) (fun w => neq43 rfl w)) ?_
            refine l1 (pk_or rfl rfl rfl) ?_
            refine lnil ?_
            refine nthen ?_
            refine ciff (bf rfl (by simp)) ?_
            refine cskip ?_
            refine nthen ?_
            refine cseq ?_
            refine creg ?_
            refine l1 (mvi rfl) ?_
            refine l1 (eql rfl rfl) ?_
            refine lnil ?_
            refine nthen ?_
            refine cif rfl (fun h6 => ?_) (fun h6 => ?_)
            · skip
              refine creg ?_
              refine l1 (ldw 3 Try.isAgg43 Try.sizeOf43 rfl rfl rfl) ?_
              refine lstw 0 rfl rfl rfl Try.sizeOf43 rfl rfl rfl ?_
              refine lnil ?_
              refine nblkN ?_
              refine nthen ?_
              refine creg ?_
              refine l1 (mvi rfl) ?_
              first | refine l1 (addn rfl rfl (ri (by omega) (by omega))) ?_ | refine l1 (add rfl rfl) ?_
              refine l1 (asgi rfl) ?_
              refine lnil ?_
              first | exact nI (i + 1, (appG g (l2 i) (l3 i)).1) (by show i + 1 ≤ n; omega) (by show n - (i + 1) < n - i; omega) ⟨rfl, rfl, rfl, rfl, rfl, trivial⟩ (List.Sublist.cons_cons _ (List.nil_sublist _)) | exact nI (i + 1, (appG g (l2 i) y.2.2).1) (by show i + 1 ≤ n; omega) (by show n - (i + 1) < n - i; omega) ⟨rfl, rfl, rfl, rfl, rfl, trivial⟩ (List.Sublist.cons_cons _ (List.nil_sublist _)) | exact nI (i + 1, (appG g (madeH (l i)) (l3 i)).1) (by show i + 1 ≤ n; omega) (by show n - (i + 1) < n - i; omega) ⟨rfl, rfl, rfl, rfl, rfl, trivial⟩ (List.Sublist.cons_cons _ (List.nil_sublist _)) | exact nI (i + 1, (appG g (madeH (l i)) y.2.2).1) (by show i + 1 ≤ n; omega) (by show n - (i + 1) < n - i; omega) ⟨rfl, rfl, rfl, rfl, rfl, trivial⟩ (List.Sublist.cons_cons _ (List.nil_sublist _)) | exact nI (i + 1, g) (by show i + 1 ≤ n; omega) (by show n - (i + 1) < n - i; omega) ⟨rfl, rfl, rfl, rfl, rfl, trivial⟩ (List.Sublist.cons_cons _ (List.nil_sublist _))
            · skip
              refine cskip ?_
              refine nblkN ?_
              refine nthen ?_
              refine creg ?_
              refine l1 (mvi rfl) ?_
              first | refine l1 (addn rfl rfl (ri (by omega) (by omega))) ?_ | refine l1 (add rfl rfl) ?_
              refine l1 (asgi rfl) ?_
              refine lnil ?_
              first | exact nI (i + 1, (appG g (l2 i) (l3 i)).1) (by show i + 1 ≤ n; omega) (by show n - (i + 1) < n - i; omega) ⟨rfl, rfl, rfl, rfl, rfl, trivial⟩ (List.Sublist.cons_cons _ (List.nil_sublist _)) | exact nI (i + 1, (appG g (l2 i) y.2.2).1) (by show i + 1 ≤ n; omega) (by show n - (i + 1) < n - i; omega) ⟨rfl, rfl, rfl, rfl, rfl, trivial⟩ (List.Sublist.cons_cons _ (List.nil_sublist _)) | exact nI (i + 1, (appG g (madeH (l i)) (l3 i)).1) (by show i + 1 ≤ n; omega) (by show n - (i + 1) < n - i; omega) ⟨rfl, rfl, rfl, rfl, rfl, trivial⟩ (List.Sublist.cons_cons _ (List.nil_sublist _)) | exact nI (i + 1, (appG g (madeH (l i)) y.2.2).1) (by show i + 1 ≤ n; omega) (by show n - (i + 1) < n - i; omega) ⟨rfl, rfl, rfl, rfl, rfl, trivial⟩ (List.Sublist.cons_cons _ (List.nil_sublist _)) | exact nI (i + 1, g) (by show i + 1 ≤ n; omega) (by show n - (i + 1) < n - i; omega) ⟨rfl, rfl, rfl, rfl, rfl, trivial⟩ (List.Sublist.cons_cons _ (List.nil_sublist _))
        · skip
          refine cskip ?_
          refine nthen ?_
          refine cseq ?_
          refine cseq ?_
          refine creg ?_
          refine l1 (mvi rfl) ?_
          refine l1 (mvs rfl) ?_
          refine l1 (lens sl55 rfl rfl) ?_
          refine l1 (lss rfl rfl) ?_
          refine l1 (mvb rfl) ?_
          refine l1g rfl (gwt rfl) (fun h => mvs rfl) ?_
          refine l1g rfl (gwt rfl) (fun h => mvi rfl) ?_
          refine l1g rfl (gwt rfl) (fun h => isp (b := pb p3) (o := po p3) sl55 (hl3.hp (i := i) (by first | omega | (simp at h; omega))) (gvt h) (gvt h) (by omega) (by first | omega | (simp at h; omega))) ?_
          refine l1g rfl (gwt rfl) (fun h => ldam (vs := encC (l3 i)) Try.isAgg59 Try.sizeOf59 (gvt h) rfl (fun w' hw => hl3.memP (i := i) (by first | omega | (simp at h; omega)) hw.below)) ?_
          refine l1g rfl (gwt rfl) (fun h => cl hb41 rfl (mc (gvt h) mn) (fun w hw => fewC_calls _ w)) ?_
          refine l1 (pk_and rfl rfl rfl) ?_
          refine l1 (mvb rfl) ?_
          refine l1g rfl (gwt rfl) (fun h => mvs rfl) ?_
          refine l1g rfl (gwt rfl) (fun h => mvi rfl) ?_
          refine l1g rfl (gwt rfl) (fun h => isp (b := pb p3) (o := po p3) sl55 (hl3.hp (i := i) (by first | omega | (simp at h; omega))) (gvt h) (gvt h) (by omega) (by first | omega | (simp at h; omega))) ?_
          refine l1g rfl (gwt rfl) (fun h => fa fa59_2 (gvt h)) ?_
          refine l1g rfl (gwt rfl) (fun h => ldm (v := .int .u64 (l3 i).cut) Try.isAgg22 (gvt h) (fun w' hw => (hl3.memP (i := i) (by first | omega | (simp at h; omega)) hw.below).at (show (encC (l3 i))[2]? = _ from rfl))) ?_
          refine l1g rfl (gwt rfl) (fun h => remn (gvt h) rfl (by decide) rfl) ?_
          refine l1g rfl (gwt rfl) (fun h => eql (gvt h) rfl) ?_
          refine l1 (pk_and rfl rfl rfl) ?_
          refine lnil ?_
          refine nthen ?_
          refine cif rfl (fun h7 => ?_) (fun h7 => ?_)
          · have hk : i < n3 ∧ True := by (simp at h7; exact ⟨by omega, trivial⟩)
            have hlq := hk.1
            refine creg ?_
            refine l1 (mvs rfl) ?_
            refine l1 (mvi rfl) ?_
            refine l1 (isp (b := pb p3) (o := po p3) sl55 (hl3.hp (i := i) hlq) rfl rfl (by omega) (by omega)) ?_
            refine l1 (ldam (vs := encC (l3 i)) Try.isAgg59 Try.sizeOf59 rfl rfl (fun w' hw => hl3.memP hk.1 hw.below)) ?_
            refine lstw 2 rfl rfl rfl Try.sizeOf59 rfl rfl rfl ?_
            refine lnil ?_
            refine nthen ?_
            refine cseq ?_
            refine creg ?_
            refine l1 (ldw 0 Try.isAgg43 Try.sizeOf43 rfl rfl rfl) ?_
            refine l1 (ldw 1 Try.isAgg37 Try.sizeOf37 rfl rfl rfl) ?_
            refine l1 (ldw 2 Try.isAgg59 Try.sizeOf59 rfl rfl rfl) ?_
            refine l1 (cl hb42 rfl (mc rfl (mc rfl (mc rfl mn))) (fun w' hw => (by first | exact apply_calls _ _ _ w' (Sl.keptS (hx2 i hh.1) hw) (kx2 i hh.1) (kx3 i hk.1) | exact apply_calls _ _ _ w' (Sl.keptS (hx2 i hh.1) hw) (kx2 i hh.1) (hcy.ok (hok i hlt)) | exact apply_calls _ _ _ w' (madeIn w' _) (madeOk (hok i hlt)) (kx3 i hk.1) | exact apply_calls _ _ _ w' (madeIn w' _) (madeOk (hok i hlt)) (hcy.ok (hok i hlt))))) ?_
            refine l1 (mv rfl) ?_
            refine l1 (ext (vs := [_, _]) rfl rfl) ?_
            refine l1 (ext (vs := [_, _]) rfl rfl) ?_
            refine lal (zs := encG zeroG) Try.zeroValue43 rfl (fun b16 => ?_)
            refine lstw 3 rfl rfl rfl Try.sizeOf43 rfl rfl rfl ?_
            refine l1 (asgi rfl) ?_
            refine lnil ?_
            refine nthen ?_
            refine cseq ?_
            refine creg ?_
            refine l1 (ldw 0 Try.isAgg43 Try.sizeOf43 rfl rfl rfl) ?_
            refine l1 (ldw 1 Try.isAgg37 Try.sizeOf37 rfl rfl rfl) ?_
            refine l1 (ldw 2 Try.isAgg59 Try.sizeOf59 rfl rfl rfl) ?_
            refine l1 (cl hb43 rfl (mc rfl (mc rfl (mc rfl mn))) (fun w' hw => (by first | exact rapply2_calls _ _ _ w' (Sl.keptS (hx2 i hh.1) hw) (kx2 i hh.1) (kx3 i hk.1) | exact rapply2_calls _ _ _ w' (Sl.keptS (hx2 i hh.1) hw) (kx2 i hh.1) (hcy.ok (hok i hlt)) | exact rapply2_calls _ _ _ w' (madeIn w' _) (madeOk (hok i hlt)) (kx3 i hk.1) | exact rapply2_calls _ _ _ w' (madeIn w' _) (madeOk (hok i hlt)) (hcy.ok (hok i hlt))))) ?_
            refine l1 (mv rfl) ?_
            refine l1 (ext (vs := [_, _]) rfl rfl) ?_
            refine l1 (ext (vs := [_, _]) rfl rfl) ?_
            refine lal (zs := encG zeroG) Try.zeroValue43 rfl (fun b17 => ?_)
            refine lstw 4 rfl rfl rfl Try.sizeOf43 rfl rfl rfl ?_
            refine l1 (asgi rfl) ?_
            refine lnil ?_
            refine nthen ?_
            refine cseq ?_
            refine cseq ?_
            refine creg ?_
            refine l1 (mvi rfl) ?_
            refine l1 (mvi rfl) ?_
            refine l1 (neq rfl rfl) ?_
            refine l1 (mvb rfl) ?_
            refine l1g rfl (gwf rfl) (fun h => ldw 3 Try.isAgg43 Try.sizeOf43 rfl rfl rfl) ?_
            refine l1g rfl (gwf rfl) (fun h => ldw 4 Try.isAgg43 Try.sizeOf43 rfl rfl rfl) ?_
            refine l1g rfl (gwf rfl) (fun h => neqa (gvt h) (gvt h) (fun w => neq43 rfl w)) ?_
            refine l1 (pk_or rfl rfl rfl) ?_
            refine lnil ?_
            refine nthen ?_
            refine ciff (bf rfl (by simp)) ?_
            refine cskip ?_
            refine nthen ?_
            refine cseq ?_
            refine creg ?_
            refine l1 (mvi rfl) ?_
            refine l1 (eql rfl rfl) ?_
            refine lnil ?_
            refine nthen ?_
            refine cif rfl (fun h8 => ?_) (fun h8 => ?_)
            · skip
              refine creg ?_
              refine l1 (ldw 3 Try.isAgg43 Try.sizeOf43 rfl rfl rfl) ?_
              refine lstw 0 rfl rfl rfl Try.sizeOf43 rfl rfl rfl ?_
              refine lnil ?_
              refine nblkN ?_
              refine nthen ?_
              refine creg ?_
              refine l1 (mvi rfl) ?_
              first | refine l1 (addn rfl rfl (ri (by omega) (by omega))) ?_ | refine l1 (add rfl rfl) ?_
              refine l1 (asgi rfl) ?_
              refine lnil ?_
              first | exact nI (i + 1, (appG g (l2 i) (l3 i)).1) (by show i + 1 ≤ n; omega) (by show n - (i + 1) < n - i; omega) ⟨rfl, rfl, rfl, rfl, rfl, trivial⟩ (List.Sublist.cons_cons _ (List.nil_sublist _)) | exact nI (i + 1, (appG g (l2 i) y.2.2).1) (by show i + 1 ≤ n; omega) (by show n - (i + 1) < n - i; omega) ⟨rfl, rfl, rfl, rfl, rfl, trivial⟩ (List.Sublist.cons_cons _ (List.nil_sublist _)) | exact nI (i + 1, (appG g (madeH (l i)) (l3 i)).1) (by show i + 1 ≤ n; omega) (by show n - (i + 1) < n - i; omega) ⟨rfl, rfl, rfl, rfl, rfl, trivial⟩ (List.Sublist.cons_cons _ (List.nil_sublist _)) | exact nI (i + 1, (appG g (madeH (l i)) y.2.2).1) (by show i + 1 ≤ n; omega) (by show n - (i + 1) < n - i; omega) ⟨rfl, rfl, rfl, rfl, rfl, trivial⟩ (List.Sublist.cons_cons _ (List.nil_sublist _)) | exact nI (i + 1, g) (by show i + 1 ≤ n; omega) (by show n - (i + 1) < n - i; omega) ⟨rfl, rfl, rfl, rfl, rfl, trivial⟩ (List.Sublist.cons_cons _ (List.nil_sublist _))
            · skip
              refine cskip ?_
              refine nblkN ?_
              refine nthen ?_
              refine creg ?_
              refine l1 (mvi rfl) ?_
              first | refine l1 (addn rfl rfl (ri (by omega) (by omega))) ?_ | refine l1 (add rfl rfl) ?_
              refine l1 (asgi rfl) ?_
              refine lnil ?_
              first | exact nI (i + 1, (appG g (l2 i) (l3 i)).1) (by show i + 1 ≤ n; omega) (by show n - (i + 1) < n - i; omega) ⟨rfl, rfl, rfl, rfl, rfl, trivial⟩ (List.Sublist.cons_cons _ (List.nil_sublist _)) | exact nI (i + 1, (appG g (l2 i) y.2.2).1) (by show i + 1 ≤ n; omega) (by show n - (i + 1) < n - i; omega) ⟨rfl, rfl, rfl, rfl, rfl, trivial⟩ (List.Sublist.cons_cons _ (List.nil_sublist _)) | exact nI (i + 1, (appG g (madeH (l i)) (l3 i)).1) (by show i + 1 ≤ n; omega) (by show n - (i + 1) < n - i; omega) ⟨rfl, rfl, rfl, rfl, rfl, trivial⟩ (List.Sublist.cons_cons _ (List.nil_sublist _)) | exact nI (i + 1, (appG g (madeH (l i)) y.2.2).1) (by show i + 1 ≤ n; omega) (by show n - (i + 1) < n - i; omega) ⟨rfl, rfl, rfl, rfl, rfl, trivial⟩ (List.Sublist.cons_cons _ (List.nil_sublist _)) | exact nI (i + 1, g) (by show i + 1 ≤ n; omega) (by show n - (i + 1) < n - i; omega) ⟨rfl, rfl, rfl, rfl, rfl, trivial⟩ (List.Sublist.cons_cons _ (List.nil_sublist _))
          · skip
            refine cskip ?_
            refine nthen ?_
            refine cseq ?_
            refine creg ?_
            refine l1 (ldw 0 Try.isAgg43 Try.sizeOf43 rfl rfl rfl) ?_
            refine l1 (ldw 1 Try.isAgg37 Try.sizeOf37 rfl rfl rfl) ?_
            refine l1 (ldw 2 Try.isAgg59 Try.sizeOf59 rfl rfl rfl) ?_
            refine l1 (cl hb42 rfl (mc rfl (mc rfl (mc rfl mn))) (fun w' hw => (by first | exact apply_calls _ _ _ w' (Sl.keptS (hx2 i hh.1) hw) (kx2 i hh.1) (kx3 i hk.1) | exact apply_calls _ _ _ w' (Sl.keptS (hx2 i hh.1) hw) (kx2 i hh.1) (hcy.ok (hok i hlt)) | exact apply_calls _ _ _ w' (madeIn w' _) (madeOk (hok i hlt)) (kx3 i hk.1) | exact apply_calls _ _ _ w' (madeIn w' _) (madeOk (hok i hlt)) (hcy.ok (hok i hlt))))) ?_
            refine l1 (mv rfl) ?_
            refine l1 (ext (vs := [_, _]) rfl rfl) ?_
            refine l1 (ext (vs := [_, _]) rfl rfl) ?_
            refine lal (zs := encG zeroG) Try.zeroValue43 rfl (fun b18 => ?_)
            refine lstw 3 rfl rfl rfl Try.sizeOf43 rfl rfl rfl ?_
            refine l1 (asgi rfl) ?_
            refine lnil ?_
            refine nthen ?_
            refine cseq ?_
            refine creg ?_
            refine l1 (ldw 0 Try.isAgg43 Try.sizeOf43 rfl rfl rfl) ?_
            refine l1 (ldw 1 Try.isAgg37 Try.sizeOf37 rfl rfl rfl) ?_
            refine l1 (ldw 2 Try.isAgg59 Try.sizeOf59 rfl rfl rfl) ?_
            refine l1 (cl hb43 rfl (mc rfl (mc rfl (mc rfl mn))) (fun w' hw => (by first | exact rapply2_calls _ _ _ w' (Sl.keptS (hx2 i hh.1) hw) (kx2 i hh.1) (kx3 i hk.1) | exact rapply2_calls _ _ _ w' (Sl.keptS (hx2 i hh.1) hw) (kx2 i hh.1) (hcy.ok (hok i hlt)) | exact rapply2_calls _ _ _ w' (madeIn w' _) (madeOk (hok i hlt)) (kx3 i hk.1) | exact rapply2_calls _ _ _ w' (madeIn w' _) (madeOk (hok i hlt)) (hcy.ok (hok i hlt))))) ?_
            refine l1 (mv rfl) ?_
            refine l1 (ext (vs := [_, _]) rfl rfl) ?_
            refine l1 (ext (vs := [_, _]) rfl rfl) ?_
            refine lal (zs := encG zeroG) Try.zeroValue43 rfl (fun b19 => ?_)
            refine lstw 4 rfl rfl rfl Try.sizeOf43 rfl rfl rfl ?_
            refine l1 (asgi rfl) ?_
            refine lnil ?_
            refine nthen ?_
            refine cseq ?_
            refine cseq ?_
            refine creg ?_
            refine l1 (mvi rfl) ?_
            refine l1 (mvi rfl) ?_
            refine l1 (neq rfl rfl) ?_
            refine l1 (mvb rfl) ?_
            refine l1g rfl (gwf rfl) (fun h => ldw 3 Try.isAgg43 Try.sizeOf43 rfl rfl rfl) ?_
            refine l1g rfl (gwf rfl) (fun h => ldw 4 Try.isAgg43 Try.sizeOf43 rfl rfl rfl) ?_
            refine l1g rfl (gwf rfl) (fun h => neqa (gvt h) (gvt h) (fun w => neq43 rfl w)) ?_
            refine l1 (pk_or rfl rfl rfl) ?_
            refine lnil ?_
            refine nthen ?_
            refine ciff (bf rfl (by simp)) ?_
            refine cskip ?_
            refine nthen ?_
            refine cseq ?_
            refine creg ?_
            refine l1 (mvi rfl) ?_
            refine l1 (eql rfl rfl) ?_
            refine lnil ?_
            refine nthen ?_
            refine cif rfl (fun h9 => ?_) (fun h9 => ?_)
            · skip
              refine creg ?_
              refine l1 (ldw 3 Try.isAgg43 Try.sizeOf43 rfl rfl rfl) ?_
              refine lstw 0 rfl rfl rfl Try.sizeOf43 rfl rfl rfl ?_
              refine lnil ?_
              refine nblkN ?_
              refine nthen ?_
              refine creg ?_
              refine l1 (mvi rfl) ?_
              first | refine l1 (addn rfl rfl (ri (by omega) (by omega))) ?_ | refine l1 (add rfl rfl) ?_
              refine l1 (asgi rfl) ?_
              refine lnil ?_
              first | exact nI (i + 1, (appG g (l2 i) (l3 i)).1) (by show i + 1 ≤ n; omega) (by show n - (i + 1) < n - i; omega) ⟨rfl, rfl, rfl, rfl, rfl, trivial⟩ (List.Sublist.cons_cons _ (List.nil_sublist _)) | exact nI (i + 1, (appG g (l2 i) y.2.2).1) (by show i + 1 ≤ n; omega) (by show n - (i + 1) < n - i; omega) ⟨rfl, rfl, rfl, rfl, rfl, trivial⟩ (List.Sublist.cons_cons _ (List.nil_sublist _)) | exact nI (i + 1, (appG g (madeH (l i)) (l3 i)).1) (by show i + 1 ≤ n; omega) (by show n - (i + 1) < n - i; omega) ⟨rfl, rfl, rfl, rfl, rfl, trivial⟩ (List.Sublist.cons_cons _ (List.nil_sublist _)) | exact nI (i + 1, (appG g (madeH (l i)) y.2.2).1) (by show i + 1 ≤ n; omega) (by show n - (i + 1) < n - i; omega) ⟨rfl, rfl, rfl, rfl, rfl, trivial⟩ (List.Sublist.cons_cons _ (List.nil_sublist _)) | exact nI (i + 1, g) (by show i + 1 ≤ n; omega) (by show n - (i + 1) < n - i; omega) ⟨rfl, rfl, rfl, rfl, rfl, trivial⟩ (List.Sublist.cons_cons _ (List.nil_sublist _))
            · skip
              refine cskip ?_
              refine nblkN ?_
              refine nthen ?_
              refine creg ?_
              refine l1 (mvi rfl) ?_
              first | refine l1 (addn rfl rfl (ri (by omega) (by omega))) ?_ | refine l1 (add rfl rfl) ?_
              refine l1 (asgi rfl) ?_
              refine lnil ?_
              first | exact nI (i + 1, (appG g (l2 i) (l3 i)).1) (by show i + 1 ≤ n; omega) (by show n - (i + 1) < n - i; omega) ⟨rfl, rfl, rfl, rfl, rfl, trivial⟩ (List.Sublist.cons_cons _ (List.nil_sublist _)) | exact nI (i + 1, (appG g (l2 i) y.2.2).1) (by show i + 1 ≤ n; omega) (by show n - (i + 1) < n - i; omega) ⟨rfl, rfl, rfl, rfl, rfl, trivial⟩ (List.Sublist.cons_cons _ (List.nil_sublist _)) | exact nI (i + 1, (appG g (madeH (l i)) (l3 i)).1) (by show i + 1 ≤ n; omega) (by show n - (i + 1) < n - i; omega) ⟨rfl, rfl, rfl, rfl, rfl, trivial⟩ (List.Sublist.cons_cons _ (List.nil_sublist _)) | exact nI (i + 1, (appG g (madeH (l i)) y.2.2).1) (by show i + 1 ≤ n; omega) (by show n - (i + 1) < n - i; omega) ⟨rfl, rfl, rfl, rfl, rfl, trivial⟩ (List.Sublist.cons_cons _ (List.nil_sublist _)) | exact nI (i + 1, g) (by show i + 1 ≤ n; omega) (by show n - (i + 1) < n - i; omega) ⟨rfl, rfl, rfl, rfl, rfl, trivial⟩ (List.Sublist.cons_cons _ (List.nil_sublist _))
    · skip
      refine cexit ?_
      refine nthenE ?_
      refine nIE ?_
      refine nblkE ?_
      refine nthen ?_
      refine cseq ?_
      refine creg ?_
      refine l1 (asgb rfl) ?_
      refine lnil ?_
      refine nthen ?_
      refine cret ?_
      exact fin1 rfl rfl
end Go.Proofs.Ytkdbjhlkahkobaa
