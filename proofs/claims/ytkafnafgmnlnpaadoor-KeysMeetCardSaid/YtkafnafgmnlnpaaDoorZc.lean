/- several texts of ours, joined: Wa, Wb, Wc, Jo, Wd, We, Wf, Wg, Aw, Wh -/
import Derived.Test.YtkafnafgmnlnpaaDoorZb
import Derived.Shelf.Bytes.SlJoin
import Derived.Test.YtkafnafgmnlnpaaDoorProg
/- walks, printed by a program of ours -/
namespace Go.Proofs.YtkafnafgmnlnpaaDoor
open Jal Go Go.RowKit
set_option maxRecDepth 100000
theorem rot_calls (n x : Nat) (hn : 1 ≤ n ∧ n ≤ 31) (hx : x < 2 ^ 32) (w : World) : Calls Tryd.prog 80 #[.int .u32 (x : Int), .int .i64 (-(n : Int))] w (Ret (.int .u32 (rr n x : Int)) w) := by
  refine fn_calls (n := 17) Tryd.func80 rfl rfl (lb rfl) ?_
  refine cseq ?_
  refine creg ?_
  refine l1 (asgi rfl) ?_
  refine lnil ?_
  refine nthen ?_
  refine cseq ?_
  refine creg ?_
  refine l1 (mvi rfl) ?_
  refine l1 (cvr ⟨_, Tryd.underlying3⟩ Tryd.underlying91 rfl (wrapneg hn)) ?_
  refine l1 (uand uk64 (by omega) (b := 31) (by decide) rfl rfl) ?_
  refine l1 (asgi rfl) ?_
  refine lnil ?_
  refine nthen ?_
  refine cseq ?_
  refine creg ?_
  refine l1 (mvi rfl) ?_
  refine l1 (mvi rfl) ?_
  refine l1 (ushl uk32 (n := (18446744073709551616 - n) &&& 31) (by rw [land31 hn]; omega) rfl rfl) ?_
  refine l1 (mvi rfl) ?_
  refine l1 (mvi rfl) ?_
  refine l1 (usub uk64 (a := 32) (by rw [land31 hn]; omega) (by decide) rfl rfl) ?_
  refine l1 (ushr uk32 (n := 32 - ((18446744073709551616 - n) &&& 31)) (by omega) rfl rfl) ?_
  refine l1 (uor uk32 (Nat.mod_lt _ (by decide)) (div_b _ hx) rfl rfl) ?_
  refine l1 (asgi rfl) ?_
  refine lnil ?_
  refine nthen ?_
  refine cret ?_
  exact fin1i rfl rfl (by rw [land31 hn, show 32 - (32 - n) = n by omega]; rfl)

theorem big_calls (b o n c : Nat) (l : List Nat) (w : World) (hl : By w b o l) (hn : l.length = n) (hn2 : n ≤ 140737488355328) : Calls Tryd.prog 86 #[.slice (some ⟨b, o, none⟩) n c] w (Ret (.int .u64 (bigN l : Nat)) w) := by
  subst hn
  refine fn_calls (n := 19) Tryd.func86 rfl rfl (lb rfl) ?_
  refine cseq ?_
  refine creg ?_
  refine l1 (asgi rfl) ?_
  refine lnil ?_
  refine nthen ?_
  refine cseq ?_
  refine creg ?_
  refine l1 (asgi rfl) ?_
  refine lnil ?_
  refine nthen ?_
  refine cseq ?_
  refine cseq ?_
  refine creg ?_
  refine l1 (mvs rfl) ?_
  refine l1 (lens sl45 rfl rfl) ?_
  refine l1 (mvi rfl) ?_
  refine lnil ?_
  refine nthen ?_
  refine cblock ?_
  refine cloopI (σ := Nat) (fun s => [(3, .int .u64 (bigN (l.take s) : Nat)), (6, .slice (some ⟨b, o, none⟩) l.length c), (7, .int .i64 (l.length : Int)), (8, .int .i64 (s : Int))]) (fun s => []) (fun s => s ≤ l.length) (fun s => l.length - s) 0 (Nat.zero_le _) ⟨rfl, rfl, rfl, rfl, trivial⟩ (List.Sublist.refl _) ?_
  rintro i j hi
  show WC _ _ _ ([]) _ _ (over j [(3, .int .u64 (bigN (l.take i) : Nat)), (6, .slice (some ⟨b, o, none⟩) l.length c), (7, .int .i64 (l.length : Int)), (8, .int .i64 (i : Int))])
  replace hi : i ≤ l.length := hi
  refine cseq ?_
  refine creg ?_
  refine l1 (lss rfl rfl) ?_
  refine lnil ?_
  refine nthen ?_
  refine cseq ?_
  refine cif rfl (fun h1 => ?_) (fun h1 => ?_)
  · have hlt : i < l.length := by (have := dt h1; omega)
    refine cskip ?_
    refine nthen ?_
    refine cseq ?_
    refine cblock ?_
    refine cseq ?_
    refine creg ?_
    refine l1 (is sl45 rfl rfl (by first | omega | decide | (simp at *; omega)) (by first | omega | decide | (simp at *; omega))) ?_
    refine l1 (ldm (v := .int .u8 (l.getD i 0 : Nat)) Tryd.isAgg5 rfl (fun w' hw => by have := (hl.keptS hw).at (i := i) (by omega); simpa using this)) ?_
    refine l1 (asgi rfl) ?_
    refine lnil ?_
    refine nthen ?_
    refine creg ?_
    refine l1 (mvi rfl) ?_
    refine l1 (ushl uk64 (n := 8) (by decide) rfl rfl) ?_
    refine l1 (mvi rfl) ?_
    refine l1 (cvus uk64 ⟨_, Tryd.underlying5⟩ Tryd.underlying50 rfl (by have := hl.ok.getD i; omega)) ?_
    refine l1 (uor uk64 (Nat.mod_lt _ (by decide)) (by have := hl.ok.getD i; omega) rfl rfl) ?_
    refine l1 (asgi rfl) ?_
    refine lnil ?_
    refine nblkN ?_
    refine nthen ?_
    refine creg ?_
    first | refine l1 (addn rfl rfl (ri (by omega) (by omega))) ?_ | refine l1 (add rfl rfl) ?_
    refine l1 (mvi rfl) ?_
    refine lnil ?_
    exact nI (i + 1) (by show i + 1 ≤ l.length; omega) (by show l.length - (i + 1) < l.length - i; omega) ⟨by rw [take_snoc (by omega), bigN_snoc]; rfl, rfl, rfl, rfl, trivial⟩ (List.Sublist.refl _)
  · have hge : i = l.length := by (have := df h1; omega)
    subst hge
    refine cexit ?_
    refine nthenE ?_
    refine nIE ?_
    refine nblkE ?_
    refine nthen ?_
    refine cseq ?_
    refine creg ?_
    refine l1 (mvi rfl) ?_
    refine l1 (asgi rfl) ?_
    refine lnil ?_
    refine nthen ?_
    refine cret ?_
    exact fin1i rfl rfl (by rw [List.take_length])

theorem spread_calls (b o c : Nat) (l : List Nat) (w : World) (hl : By w b o l) (hn : l.length = 64) (hc : 64 ≤ c) : Calls Tryd.prog 79 #[.slice (some ⟨b, o, none⟩) 64 c] w (Ret (.agg (arrW l 64).toArray) w) := by
  refine fn_calls (n := 69) Tryd.func79 rfl rfl (lb rfl) ?_
  refine cseq ?_
  refine creg ?_
  refine lal (zs := arrW l 0) Tryd.zeroValue98 rfl (fun b1 => ?_)
  refine lnil ?_
  refine nthen ?_
  refine cseq ?_
  refine creg ?_
  refine lal (zs := arrW l 0) Tryd.zeroValue98 rfl (fun b2 => ?_)
  refine lnil ?_
  refine nthen ?_
  refine cseq ?_
  refine cseq ?_
  refine creg ?_
  refine l1 (mvi rfl) ?_
  refine lnil ?_
  refine nthen ?_
  refine cblock ?_
  refine cloopI (σ := Nat) (fun s => [(0, .slice (some ⟨b, o, none⟩) 64 c), (2, .pointer (some ⟨b1, 0, none⟩)), (3, .pointer (some ⟨b2, 0, none⟩)), (10, .int .i64 (s : Nat))]) (fun s => [⟨b1, arrW l 0, 98⟩, ⟨b2, arrW l s, 98⟩]) (fun s => s ≤ 16) (fun s => 16 - s) 0 (Nat.zero_le _) ⟨rfl, rfl, rfl, rfl, trivial⟩ (List.Sublist.refl _) ?_
  rintro i j hi
  show WC _ _ _ ([⟨b1, arrW l 0, 98⟩, ⟨b2, arrW l i, 98⟩]) _ _ (over j [(0, .slice (some ⟨b, o, none⟩) 64 c), (2, .pointer (some ⟨b1, 0, none⟩)), (3, .pointer (some ⟨b2, 0, none⟩)), (10, .int .i64 (i : Nat))])
  replace hi : i ≤ 16 := hi
  refine cseq ?_
  refine creg ?_
  refine l1 (lss rfl rfl) ?_
  refine lnil ?_
  refine nthen ?_
  refine cseq ?_
  refine cif rfl (fun h1 => ?_) (fun h1 => ?_)
  · have hlt : i < 16 := by (have := dt h1; omega)
    refine cskip ?_
    refine nthen ?_
    refine cseq ?_
    refine cblock ?_
    refine cseq ?_
    refine creg ?_
    refine l1 (mvi rfl) ?_
    refine l1 (asgi rfl) ?_
    refine lnil ?_
    refine nthen ?_
    refine creg ?_
    refine l1 (mvi rfl) ?_
    refine l1 (mvs rfl) ?_
    refine l1 (mvi rfl) ?_
    refine l1 (nmul (a := 4) rfl rfl (by omega)) ?_
    refine l1 (mvi rfl) ?_
    refine l1 (nmul (a := 4) rfl rfl (by omega)) ?_
    refine l1 (nadd (b := 4) rfl rfl (by omega)) ?_
    refine l1 (sllh (l := 4 * i) (h := 4 * i + 4) Tryd.underlying45 Tryd.sizeOf5 rfl rfl rfl (by omega) (by omega) (by omega)) ?_
    refine l1 (cl hb86 rfl (mc rfl mn) (fun w hw => big_calls b _ _ _ ((l.drop (4 * i)).take 4) w (by rw [Nat.mul_one]; exact (hl.keptS hw).part (4 * i) 4) (by rw [List.length_take, List.length_drop]; omega) (by omega))) ?_
    refine l1 (cvu uk32 ⟨_, Tryd.underlying50⟩ Tryd.underlying96 rfl) ?_
    refine l1 (ia ar98 rfl rfl (by omega) (by omega)) ?_
    refine lsti 1 rfl rfl rfl Tryd.sizeOf96 (by rw [arrW_len]; omega) (arrW_set l i _ (sprN_lo l hlt).symm) ?_
    refine lnil ?_
    refine nblkN ?_
    refine nthen ?_
    refine creg ?_
    first | refine l1 (addn rfl rfl (ri (by omega) (by omega))) ?_ | refine l1 (add rfl rfl) ?_
    refine l1 (mvi rfl) ?_
    refine lnil ?_
    exact nI (i + 1) (by show i + 1 ≤ 16; omega) (by show 16 - (i + 1) < 16 - i; omega) ⟨rfl, rfl, rfl, rfl, trivial⟩ (List.Sublist.refl _)
  · have hge : i = 16 := by (have := df h1; omega)
    subst hge
    refine cexit ?_
    refine nthenE ?_
    refine nIE ?_
    refine nblkE ?_
    refine nthen ?_
    refine cseq ?_
    refine cseq ?_
    refine creg ?_
    refine l1 (asgi rfl) ?_
    refine lnil ?_
    refine nthen ?_
    refine cblock ?_
    refine cloopI (σ := Nat) (fun s => [(0, .slice (some ⟨b, o, none⟩) 64 c), (2, .pointer (some ⟨b1, 0, none⟩)), (3, .pointer (some ⟨b2, 0, none⟩)), (5, .int .i64 (s : Nat))]) (fun s => [⟨b1, arrW l 0, 98⟩, ⟨b2, arrW l s, 98⟩]) (fun s => 16 ≤ s ∧ s ≤ 64) (fun s => 64 - s) 16 ⟨Nat.le_refl _, by decide⟩ ⟨rfl, rfl, rfl, rfl, trivial⟩ (List.Sublist.refl _) ?_
    rintro i j hi
    show WC _ _ _ ([⟨b1, arrW l 0, 98⟩, ⟨b2, arrW l i, 98⟩]) _ _ (over j [(0, .slice (some ⟨b, o, none⟩) 64 c), (2, .pointer (some ⟨b1, 0, none⟩)), (3, .pointer (some ⟨b2, 0, none⟩)), (5, .int .i64 (i : Nat))])
    replace hi : 16 ≤ i ∧ i ≤ 64 := hi
    refine cseq ?_
    refine cseq ?_
    refine creg ?_
    refine l1 (mvi rfl) ?_
    refine l1 (lss rfl rfl) ?_
    refine lnil ?_
    refine nthen ?_
    refine cif rfl (fun h2 => ?_) (fun h2 => ?_)
    · have hlt : i < 64 := by (have := dt h2; omega)
      refine cskip ?_
      refine nthen ?_
      refine cseq ?_
      refine cblock ?_
      refine cseq ?_
      refine cregq mo (by kernel_rfl) ?_
      refine q1 (mvi rfl) ?_
      refine q1 (nsub (b := 15) rfl rfl (by omega) (by omega)) ?_
      refine q1 (ia ar98 rfl (i := ((i - 15 : Nat) : Int)) rfl (by omega) (by omega)) ?_
      refine q1 (ldc 1 Tryd.isAgg96 rfl rfl (arrW_get l i (i - 15) (by omega))) ?_
      refine q1 (mvi rfl) ?_
      refine q1 (nsub (b := 2) rfl rfl (by omega) (by omega)) ?_
      refine q1 (ia ar98 rfl (i := ((i - 2 : Nat) : Int)) rfl (by omega) (by omega)) ?_
      refine q1 (ldc 1 Tryd.isAgg96 rfl rfl (arrW_get l i (i - 2) (by omega))) ?_
      refine q1 (asgi rfl) ?_
      refine q1 (asgi rfl) ?_
      refine qnil ?_
      refine nthen ?_
      refine cseq ?_
      refine creg ?_
      refine l1 (mvi rfl) ?_
      refine l1 (cl hb80 rfl (mc rfl (mc rfl mn)) (fun w hw => rot_calls 7 _ (by decide) (sprN_ok l i _) w)) ?_
      refine l1 (mvi rfl) ?_
      refine l1 (cl hb80 rfl (mc rfl (mc rfl mn)) (fun w hw => rot_calls 18 _ (by decide) (sprN_ok l i _) w)) ?_
      refine l1 (uxor uk32 (rr_b 7 (sprN_ok l i _)) (rr_b 18 (sprN_ok l i _)) rfl rfl) ?_
      refine l1 (mvi rfl) ?_
      refine l1 (ushr uk32 (n := 3) (by decide) rfl rfl) ?_
      refine l1 (uxor uk32 (xor_b (rr_b 7 (sprN_ok l i _)) (rr_b 18 (sprN_ok l i _))) (div_b 3 (sprN_ok l i _)) rfl rfl) ?_
      refine l1 (asgi rfl) ?_
      refine lnil ?_
      refine nthen ?_
      refine cseq ?_
      refine creg ?_
      refine l1 (mvi rfl) ?_
      refine l1 (cl hb80 rfl (mc rfl (mc rfl mn)) (fun w hw => rot_calls 17 _ (by decide) (sprN_ok l i _) w)) ?_
      refine l1 (mvi rfl) ?_
      refine l1 (cl hb80 rfl (mc rfl (mc rfl mn)) (fun w hw => rot_calls 19 _ (by decide) (sprN_ok l i _) w)) ?_
      refine l1 (uxor uk32 (rr_b 17 (sprN_ok l i _)) (rr_b 19 (sprN_ok l i _)) rfl rfl) ?_
      refine l1 (mvi rfl) ?_
      refine l1 (ushr uk32 (n := 10) (by decide) rfl rfl) ?_
      refine l1 (uxor uk32 (xor_b (rr_b 17 (sprN_ok l i _)) (rr_b 19 (sprN_ok l i _))) (div_b 10 (sprN_ok l i _)) rfl rfl) ?_
      refine l1 (asgi rfl) ?_
      refine lnil ?_
      refine nthen ?_
      refine cregT 15 mo (by kernel_rfl) ?_
      refine q1 (mvi rfl) ?_
      refine q1 (mvi rfl) ?_
      refine q1 (nsub (b := 16) rfl rfl (by omega) (by omega)) ?_
      refine q1 (ia ar98 rfl (i := ((i - 16 : Nat) : Int)) rfl (by omega) (by omega)) ?_
      refine q1 (ldc 1 Tryd.isAgg96 rfl rfl (arrW_get l i (i - 16) (by omega))) ?_
      refine q1 (mvi rfl) ?_
      refine q1 (uadd uk32 rfl rfl) ?_
      refine q1 (mvi rfl) ?_
      refine q1 (nsub (b := 7) rfl rfl (by omega) (by omega)) ?_
      refine q1 (ia ar98 rfl (i := ((i - 7 : Nat) : Int)) rfl (by omega) (by omega)) ?_
      refine q1 (ldc 1 Tryd.isAgg96 rfl rfl (arrW_get l i (i - 7) (by omega))) ?_
      refine q1 (uadd uk32 rfl rfl) ?_
      refine q1 (mvi rfl) ?_
      refine q1 (uadd uk32 rfl rfl) ?_
      refine q1 (ia ar98 rfl rfl (by omega) (by omega)) ?_
      refine qtail ?_
      refine lsti 1 rfl rfl rfl Tryd.sizeOf96 (by rw [arrW_len]; omega) (arrW_set l i _ (sprN_hi l hi.1).symm) ?_
      refine lnil ?_
      refine nblkN ?_
      refine nthen ?_
      refine creg ?_
      refine l1 (mvi rfl) ?_
      first | refine l1 (addn rfl rfl (ri (by omega) (by omega))) ?_ | refine l1 (add rfl rfl) ?_
      refine l1 (asgi rfl) ?_
      refine lnil ?_
      exact nI (i + 1) (by show 16 ≤ i + 1 ∧ i + 1 ≤ 64; omega) (by show 64 - (i + 1) < 64 - i; omega) ⟨rfl, rfl, rfl, rfl, trivial⟩ (List.Sublist.refl _)
    · have hge : i = 64 := by (have := df h2; omega)
      subst hge
      refine cexit ?_
      refine nthenE ?_
      refine nIE ?_
      refine nblkE ?_
      refine nthen ?_
      refine cseq ?_
      refine creg ?_
      refine l1 (ldw 1 Tryd.isAgg98 Tryd.sizeOf98 rfl rfl rfl) ?_
      refine lstw 0 rfl rfl rfl Tryd.sizeOf98 rfl rfl rfl ?_
      refine lnil ?_
      refine nthen ?_
      refine cret ?_
      exact finc 0 rfl Tryd.isAgg98 Tryd.sizeOf98 rfl rfl rfl rfl

end Go.Proofs.YtkafnafgmnlnpaaDoor
/- walks, printed by a program of ours -/
namespace Go.Proofs.YtkafnafgmnlnpaaDoor
open Jal Go Go.RowKit
set_option maxRecDepth 100000
theorem bk103 (a0 a1 a2 a3 a4 a5 a6 a7 : Int) : ∀ w, (Go.Instr.build 103 (List.toArray [(0, .int .u32 a0), (1, .int .u32 a1), (2, .int .u32 a2), (3, .int .u32 a3), (4, .int .u32 a4), (5, .int .u32 a5), (6, .int .u32 a6), (7, .int .u32 a7)])).run Tryd.prog w = .ok (.agg (List.toArray [.int .u32 a0, .int .u32 a1, .int .u32 a2, .int .u32 a3, .int .u32 a4, .int .u32 a5, .int .u32 a6, .int .u32 a7])) w := fun w => by kernel_rfl
theorem start_calls (w : World) : Calls Tryd.prog 57 #[] w (Ret (.agg (encS s0).toArray) w) := by
  refine fn_calls (n := 2) Tryd.func57 rfl rfl (lb rfl) ?_
  refine cseq ?_
  refine creg ?_
  refine lal Tryd.zeroValue103 rfl (fun b1 => ?_)
  refine lnil ?_
  refine nthen ?_
  refine cseq ?_
  refine creg ?_
  refine l1 (bldk (zs := encS s0) rfl (bk103 _ _ _ _ _ _ _ _)) ?_
  refine lstw 0 rfl rfl rfl Tryd.sizeOf103 rfl rfl rfl ?_
  refine lnil ?_
  refine nthen ?_
  refine cret ?_
  exact finc 0 rfl Tryd.isAgg103 Tryd.sizeOf103 rfl rfl rfl rfl

set_option maxHeartbeats 1000000 in
theorem mix_calls {w0 w : World} {T : List Ent} (b b2 o c : Nat) (s : St) (l : List Nat) (hs : OkS s) (hsat : Sat w0 (⟨b, encS s, 103⟩ :: T) w) (hR : Rounds w0) (hl : ∀ w', Sat w0 T w' → By w' b2 o l) (hn : l.length = 64) (hc : 64 ≤ c) : Calls Tryd.prog 60 #[.pointer (some ⟨b, 0, none⟩), .slice (some ⟨b2, o, none⟩) 64 c] w (RetS w0 (fun v Hn => Hn = ⟨b, encS (mixS l s), 103⟩ :: T)) := by
  refine fn_callsH (n := 122) (H := ⟨b, encS s, 103⟩ :: T) hsat Tryd.func60 rfl rfl (lb rfl) ?_
  refine cseq ?_
  refine creg ?_
  refine l1 (mvs rfl) ?_
  refine l1 (cl hb79 rfl (mc rfl mn) (fun w hw => spread_calls b2 o c l w (hl w (hw.sub (List.sublist_cons_self _ _))) hn hc)) ?_
  refine lal Tryd.zeroValue98 rfl (fun b1 => ?_)
  refine wl_perm (ins_perm 1 _ _) ?_
  refine lstw 1 rfl rfl rfl Tryd.sizeOf98 rfl rfl rfl ?_
  refine lnil ?_
  refine nthen ?_
  refine cseq ?_
  refine creg ?_
  refine l1 (mv rfl) ?_
  refine l1 (nilc rfl) ?_
  refine l1 (ldw 0 Tryd.isAgg103 Tryd.sizeOf103 rfl rfl rfl) ?_
  refine lal Tryd.zeroValue103 rfl (fun b2 => ?_)
  refine wl_perm (ins_perm 2 _ _) ?_
  refine lstw 2 rfl rfl rfl Tryd.sizeOf103 rfl rfl rfl ?_
  refine lnil ?_
  refine nthen ?_
  refine cseq ?_
  refine cseq ?_
  refine creg ?_
  refine l1 (mvi rfl) ?_
  refine lnil ?_
  refine nthen ?_
  refine cblock ?_
  refine cloopI (σ := Nat) (fun q => [(0, .pointer (some ⟨b, 0, none⟩)), (4, .pointer (some ⟨b1, 0, none⟩)), (5, .pointer (some ⟨b2, 0, none⟩)), (17, .int .i64 (q : Nat))]) (fun q => ([⟨b, encS s, 103⟩, ⟨b1, arrW l 64, 98⟩, ⟨b2, encS (rndsN (spr l) s q), 103⟩] ++ (T))) (fun q => q ≤ 64) (fun q => 64 - q) 0 (Nat.zero_le _) ⟨rfl, rfl, rfl, rfl, trivial⟩ (List.Sublist.refl _) ?_
  rintro i j hi
  show WC _ _ _ (⟨b, encS s, 103⟩ :: ⟨b1, arrW l 64, 98⟩ :: ⟨b2, encS (rndsN (spr l) s i), 103⟩ :: (T)) _ _ (over j [(0, .pointer (some ⟨b, 0, none⟩)), (4, .pointer (some ⟨b1, 0, none⟩)), (5, .pointer (some ⟨b2, 0, none⟩)), (17, .int .i64 (i : Nat))])
  replace hi : i ≤ 64 := hi; generalize hv : rndsN (spr l) s i = v; have kv : OkS v := hv ▸ hs.rndsN _ _
  refine cseq ?_
  refine creg ?_
  refine l1 (lss rfl rfl) ?_
  refine lnil ?_
  refine nthen ?_
  refine cseq ?_
  refine cif rfl (fun h1 => ?_) (fun h1 => ?_)
  · have hlt : i < 64 := by (have := dt h1; omega)
    refine cskip ?_
    refine nthen ?_
    refine cseq ?_
    refine cblock ?_
    refine cseq ?_
    refine creg ?_
    refine l1 (mvi rfl) ?_
    refine l1 (asgi rfl) ?_
    refine lnil ?_
    refine nthen ?_
    refine cseq ?_
    refine cregq mo (by kernel_rfl) ?_
    refine q1 (ia ar103 rfl rfl (by decide) (by decide)) ?_
    refine q1 (ldc 2 Tryd.isAgg96 rfl rfl rfl) ?_
    refine q1 (cl hb80 rfl (mc rfl (mc rfl mn)) (fun w hw => rot_calls 6 _ (by decide) kv.e w)) ?_
    refine q1 (ia ar103 rfl rfl (by decide) (by decide)) ?_
    refine q1 (ldc 2 Tryd.isAgg96 rfl rfl rfl) ?_
    refine q1 (cl hb80 rfl (mc rfl (mc rfl mn)) (fun w hw => rot_calls 11 _ (by decide) kv.e w)) ?_
    refine q1 (uxor uk32 (rr_b 6 kv.e) (rr_b 11 kv.e) rfl rfl) ?_
    refine q1 (ia ar103 rfl rfl (by decide) (by decide)) ?_
    refine q1 (ldc 2 Tryd.isAgg96 rfl rfl rfl) ?_
    refine q1 (cl hb80 rfl (mc rfl (mc rfl mn)) (fun w hw => rot_calls 25 _ (by decide) kv.e w)) ?_
    refine q1 (uxor uk32 (xor_b (rr_b 6 kv.e) (rr_b 11 kv.e)) (rr_b 25 kv.e) rfl rfl) ?_
    refine q1 (asgi rfl) ?_
    refine qnil ?_
    refine nthen ?_
    refine cseq ?_
    refine cregq mo (by kernel_rfl) ?_
    refine q1 (ia ar103 rfl rfl (by decide) (by decide)) ?_
    refine q1 (ldc 2 Tryd.isAgg96 rfl rfl rfl) ?_
    refine q1 (mvi rfl) ?_
    refine q1 (uadd uk32 rfl rfl) ?_
    refine q1 (ia ar103 rfl rfl (by decide) (by decide)) ?_
    refine q1 (ldc 2 Tryd.isAgg96 rfl rfl rfl) ?_
    refine q1 (ia ar103 rfl rfl (by decide) (by decide)) ?_
    refine q1 (ldc 2 Tryd.isAgg96 rfl rfl rfl) ?_
    refine q1 (uand uk32 kv.e kv.f rfl rfl) ?_
    refine q1 (ia ar103 rfl rfl (by decide) (by decide)) ?_
    refine q1 (ldc 2 Tryd.isAgg96 rfl rfl rfl) ?_
    refine q1 (unot32 kv.e rfl) ?_
    refine q1 (ia ar103 rfl rfl (by decide) (by decide)) ?_
    refine q1 (ldc 2 Tryd.isAgg96 rfl rfl rfl) ?_
    refine q1 (uand uk32 (xor_b (by decide) kv.e) kv.g rfl rfl) ?_
    refine q1 (uxor uk32 (and_b kv.e) (and_b (xor_b (by decide) kv.e)) rfl rfl) ?_
    refine q1 (uadd uk32 rfl rfl) ?_
    refine q1 (mvi rfl) ?_
    refine q1 (ia ar98 rfl rfl (by omega) (by omega)) ?_
    refine q1 (ldm (v := .int .u32 (KS.getD i 0 : Nat)) Tryd.isAgg96 rfl (fun w' hw => by have := (hR.keptS hw).at_ i hlt; simpa using this)) ?_
    refine q1 (uadd uk32 rfl rfl) ?_
    refine q1 (mvi rfl) ?_
    refine q1 (ia ar98 rfl rfl (by omega) (by omega)) ?_
    refine q1 (ldc 1 Tryd.isAgg96 rfl rfl (arrW_get l 64 i hlt)) ?_
    refine q1 (uadd uk32 rfl rfl) ?_
    refine q1 (asgi rfl) ?_
    refine qnil ?_
    refine nthen ?_
    refine cseq ?_
    refine cregq mo (by kernel_rfl) ?_
    refine q1 (ia ar103 rfl rfl (by decide) (by decide)) ?_
    refine q1 (ldc 2 Tryd.isAgg96 rfl rfl rfl) ?_
    refine q1 (cl hb80 rfl (mc rfl (mc rfl mn)) (fun w hw => rot_calls 2 _ (by decide) kv.a w)) ?_
    refine q1 (ia ar103 rfl rfl (by decide) (by decide)) ?_
    refine q1 (ldc 2 Tryd.isAgg96 rfl rfl rfl) ?_
    refine q1 (cl hb80 rfl (mc rfl (mc rfl mn)) (fun w hw => rot_calls 13 _ (by decide) kv.a w)) ?_
    refine q1 (uxor uk32 (rr_b 2 kv.a) (rr_b 13 kv.a) rfl rfl) ?_
    refine q1 (ia ar103 rfl rfl (by decide) (by decide)) ?_
    refine q1 (ldc 2 Tryd.isAgg96 rfl rfl rfl) ?_
    refine q1 (cl hb80 rfl (mc rfl (mc rfl mn)) (fun w hw => rot_calls 22 _ (by decide) kv.a w)) ?_
    refine q1 (uxor uk32 (xor_b (rr_b 2 kv.a) (rr_b 13 kv.a)) (rr_b 22 kv.a) rfl rfl) ?_
    refine q1 (asgi rfl) ?_
    refine qnil ?_
    refine nthen ?_
    refine cseq ?_
    refine creg ?_
    refine l1 (mvi rfl) ?_
    refine l1 (ia ar103 rfl rfl (by decide) (by decide)) ?_
    refine l1 (ldc 2 Tryd.isAgg96 rfl rfl rfl) ?_
    refine l1 (ia ar103 rfl rfl (by decide) (by decide)) ?_
    refine l1 (ldc 2 Tryd.isAgg96 rfl rfl rfl) ?_
    refine l1 (uand uk32 kv.a kv.b rfl rfl) ?_
    refine l1 (ia ar103 rfl rfl (by decide) (by decide)) ?_
    refine l1 (ldc 2 Tryd.isAgg96 rfl rfl rfl) ?_
    refine l1 (ia ar103 rfl rfl (by decide) (by decide)) ?_
    refine l1 (ldc 2 Tryd.isAgg96 rfl rfl rfl) ?_
    refine l1 (uand uk32 kv.a kv.c rfl rfl) ?_
    refine l1 (uxor uk32 (and_b kv.a) (and_b kv.a) rfl rfl) ?_
    refine l1 (ia ar103 rfl rfl (by decide) (by decide)) ?_
    refine l1 (ldc 2 Tryd.isAgg96 rfl rfl rfl) ?_
    refine l1 (ia ar103 rfl rfl (by decide) (by decide)) ?_
    refine l1 (ldc 2 Tryd.isAgg96 rfl rfl rfl) ?_
    refine l1 (uand uk32 kv.b kv.c rfl rfl) ?_
    refine l1 (uxor uk32 (xor_b (and_b kv.a) (and_b kv.a)) (and_b kv.b) rfl rfl) ?_
    refine l1 (uadd uk32 rfl rfl) ?_
    refine l1 (asgi rfl) ?_
    refine lnil ?_
    refine nthen ?_
    refine creg ?_
    refine l1 (mvi rfl) ?_
    refine l1 (mvi rfl) ?_
    refine l1 (uadd uk32 rfl rfl) ?_
    refine l1 (ia ar103 rfl rfl (by decide) (by decide)) ?_
    refine l1 (ldc 2 Tryd.isAgg96 rfl rfl rfl) ?_
    refine l1 (ia ar103 rfl rfl (by decide) (by decide)) ?_
    refine l1 (ldc 2 Tryd.isAgg96 rfl rfl rfl) ?_
    refine l1 (ia ar103 rfl rfl (by decide) (by decide)) ?_
    refine l1 (ldc 2 Tryd.isAgg96 rfl rfl rfl) ?_
    refine l1 (ia ar103 rfl rfl (by decide) (by decide)) ?_
    refine l1 (ldc 2 Tryd.isAgg96 rfl rfl rfl) ?_
    refine l1 (mvi rfl) ?_
    refine l1 (uadd uk32 rfl rfl) ?_
    refine l1 (ia ar103 rfl rfl (by decide) (by decide)) ?_
    refine l1 (ldc 2 Tryd.isAgg96 rfl rfl rfl) ?_
    refine l1 (ia ar103 rfl rfl (by decide) (by decide)) ?_
    refine l1 (ldc 2 Tryd.isAgg96 rfl rfl rfl) ?_
    refine l1 (ia ar103 rfl rfl (by decide) (by decide)) ?_
    refine l1 (ldc 2 Tryd.isAgg96 rfl rfl rfl) ?_
    refine l1 (bldk (zs := encS (rnd v (KS.getD i 0) ((sprN l 64).getD i 0))) rfl (bk103 _ _ _ _ _ _ _ _)) ?_
    refine lstw 2 rfl rfl rfl Tryd.sizeOf103 rfl rfl rfl ?_
    refine lnil ?_
    refine nblkN ?_
    refine nthen ?_
    refine creg ?_
    first | refine l1 (addn rfl rfl (ri (by omega) (by omega))) ?_ | refine l1 (add rfl rfl) ?_
    refine l1 (mvi rfl) ?_
    refine lnil ?_
    rw [show encS (rnd v (KS.getD i 0) ((sprN l 64).getD i 0)) = encS (rndsN (spr l) s (i + 1)) by rw [rndsN_succ, hv]; rfl]
    exact nI (i + 1) (by show i + 1 ≤ 64; omega) (by show 64 - (i + 1) < 64 - i; omega) ⟨rfl, rfl, rfl, rfl, trivial⟩ (List.Sublist.refl _)
  · have hge : i = 64 := by (have := df h1; omega)
    subst hge
    refine cexit ?_
    refine nthenE ?_
    refine nIE ?_
    refine nblkE ?_
    refine nthen ?_
    refine cseq ?_
    refine creg ?_
    refine l1 (mvi rfl) ?_
    refine lnil ?_
    refine nthen ?_
    refine cblock ?_
    refine cloopN 9 ?_
    refine rsucc ?_
    refine cseq ?_
    refine creg ?_
    refine l1 (lss rfl rfl) ?_
    refine lnil ?_
    refine nthen ?_
    refine cseq ?_
    refine cift rfl ?_
    refine cskip ?_
    refine nthen ?_
    refine cseq ?_
    refine cblock ?_
    refine cseq ?_
    refine creg ?_
    refine l1 (mvi rfl) ?_
    refine l1 (asgi rfl) ?_
    refine lnil ?_
    refine nthen ?_
    refine cregT 11 mo (by kernel_rfl) ?_
    refine q1 (mv rfl) ?_
    refine q1 (mvi rfl) ?_
    refine q1 (nilc rfl) ?_
    refine q1 (ia ar103 rfl rfl (by decide) (by decide)) ?_
    refine q1 (ldc 0 Tryd.isAgg96 rfl rfl rfl) ?_
    refine q1 (mvi rfl) ?_
    refine q1 (ia ar103 rfl rfl (by decide) (by decide)) ?_
    refine q1 (ldc 2 Tryd.isAgg96 rfl rfl rfl) ?_
    refine q1 (uadd uk32 rfl rfl) ?_
    refine q1 (nilc rfl) ?_
    refine q1 (ia ar103 rfl rfl (by decide) (by decide)) ?_
    refine qtail ?_
    refine lsti 0 rfl rfl rfl Tryd.sizeOf96 (lb rfl) rfl ?_
    refine lnil ?_
    refine nblkN ?_
    refine nthen ?_
    refine creg ?_
    first | refine l1 (addn rfl rfl (ri (by omega) (by omega))) ?_ | refine l1 (add rfl rfl) ?_
    refine l1 (mvi rfl) ?_
    refine lnil ?_
    refine nround (rsucc ?_)
    refine cseq ?_
    refine creg ?_
    refine l1 (lss rfl rfl) ?_
    refine lnil ?_
    refine nthen ?_
    refine cseq ?_
    refine cift rfl ?_
    refine cskip ?_
    refine nthen ?_
    refine cseq ?_
    refine cblock ?_
    refine cseq ?_
    refine creg ?_
    refine l1 (mvi rfl) ?_
    refine l1 (asgi rfl) ?_
    refine lnil ?_
    refine nthen ?_
    refine cregT 11 mo (by kernel_rfl) ?_
    refine q1 (mv rfl) ?_
    refine q1 (mvi rfl) ?_
    refine q1 (nilc rfl) ?_
    refine q1 (ia ar103 rfl rfl (by decide) (by decide)) ?_
    refine q1 (ldc 0 Tryd.isAgg96 rfl rfl rfl) ?_
    refine q1 (mvi rfl) ?_
    refine q1 (ia ar103 rfl rfl (by decide) (by decide)) ?_
    refine q1 (ldc 2 Tryd.isAgg96 rfl rfl rfl) ?_
    refine q1 (uadd uk32 rfl rfl) ?_
    refine q1 (nilc rfl) ?_
    refine q1 (ia ar103 rfl rfl (by decide) (by decide)) ?_
    refine qtail ?_
    refine lsti 0 rfl rfl rfl Tryd.sizeOf96 (lb rfl) rfl ?_
    refine lnil ?_
    refine nblkN ?_
    refine nthen ?_
    refine creg ?_
    first | refine l1 (addn rfl rfl (ri (by omega) (by omega))) ?_ | refine l1 (add rfl rfl) ?_
    refine l1 (mvi rfl) ?_
    refine lnil ?_
    refine nround (rsucc ?_)
    refine cseq ?_
    refine creg ?_
    refine l1 (lss rfl rfl) ?_
    refine lnil ?_
    refine nthen ?_
    refine cseq ?_
    refine cift rfl ?_
    refine cskip ?_
    refine nthen ?_
    refine cseq ?_
    refine cblock ?_
    refine cseq ?_
    refine creg ?_
    refine l1 (mvi rfl) ?_
    refine l1 (asgi rfl) ?_
    refine lnil ?_
    refine nthen ?_
    refine cregT 11 mo (by kernel_rfl) ?_
    refine q1 (mv rfl) ?_
    refine q1 (mvi rfl) ?_
    refine q1 (nilc rfl) ?_
    refine q1 (ia ar103 rfl rfl (by decide) (by decide)) ?_
    refine q1 (ldc 0 Tryd.isAgg96 rfl rfl rfl) ?_
    refine q1 (mvi rfl) ?_
    refine q1 (ia ar103 rfl rfl (by decide) (by decide)) ?_
    refine q1 (ldc 2 Tryd.isAgg96 rfl rfl rfl) ?_
    refine q1 (uadd uk32 rfl rfl) ?_
    refine q1 (nilc rfl) ?_
    refine q1 (ia ar103 rfl rfl (by decide) (by decide)) ?_
    refine qtail ?_
    refine lsti 0 rfl rfl rfl Tryd.sizeOf96 (lb rfl) rfl ?_
    refine lnil ?_
    refine nblkN ?_
    refine nthen ?_
    refine creg ?_
    first | refine l1 (addn rfl rfl (ri (by omega) (by omega))) ?_ | refine l1 (add rfl rfl) ?_
    refine l1 (mvi rfl) ?_
    refine lnil ?_
    refine nround (rsucc ?_)
    refine cseq ?_
    refine creg ?_
    refine l1 (lss rfl rfl) ?_
    refine lnil ?_
    refine nthen ?_
    refine cseq ?_
    refine cift rfl ?_
    refine cskip ?_
    refine nthen ?_
    refine cseq ?_
    refine cblock ?_
    refine cseq ?_
    refine creg ?_
    refine l1 (mvi rfl) ?_
    refine l1 (asgi rfl) ?_
    refine lnil ?_
    refine nthen ?_
    refine cregT 11 mo (by kernel_rfl) ?_
    refine q1 (mv rfl) ?_
    refine q1 (mvi rfl) ?_
    refine q1 (nilc rfl) ?_
    refine q1 (ia ar103 rfl rfl (by decide) (by decide)) ?_
    refine q1 (ldc 0 Tryd.isAgg96 rfl rfl rfl) ?_
    refine q1 (mvi rfl) ?_
    refine q1 (ia ar103 rfl rfl (by decide) (by decide)) ?_
    refine q1 (ldc 2 Tryd.isAgg96 rfl rfl rfl) ?_
    refine q1 (uadd uk32 rfl rfl) ?_
    refine q1 (nilc rfl) ?_
    refine q1 (ia ar103 rfl rfl (by decide) (by decide)) ?_
    refine qtail ?_
    refine lsti 0 rfl rfl rfl Tryd.sizeOf96 (lb rfl) rfl ?_
    refine lnil ?_
    refine nblkN ?_
    refine nthen ?_
    refine creg ?_
    first | refine l1 (addn rfl rfl (ri (by omega) (by omega))) ?_ | refine l1 (add rfl rfl) ?_
    refine l1 (mvi rfl) ?_
    refine lnil ?_
    refine nround (rsucc ?_)
    refine cseq ?_
    refine creg ?_
    refine l1 (lss rfl rfl) ?_
    refine lnil ?_
    refine nthen ?_
    refine cseq ?_
    refine cift rfl ?_
    refine cskip ?_
    refine nthen ?_
    refine cseq ?_
    refine cblock ?_
    refine cseq ?_
    refine creg ?_
    refine l1 (mvi rfl) ?_
    refine l1 (asgi rfl) ?_
    refine lnil ?_
    refine nthen ?_
    refine cregT 11 mo (by kernel_rfl) ?_
    refine q1 (mv rfl) ?_
    refine q1 (mvi rfl) ?_
    refine q1 (nilc rfl) ?_
    refine q1 (ia ar103 rfl rfl (by decide) (by decide)) ?_
    refine q1 (ldc 0 Tryd.isAgg96 rfl rfl rfl) ?_
    refine q1 (mvi rfl) ?_
    refine q1 (ia ar103 rfl rfl (by decide) (by decide)) ?_
    refine q1 (ldc 2 Tryd.isAgg96 rfl rfl rfl) ?_
    refine q1 (uadd uk32 rfl rfl) ?_
    refine q1 (nilc rfl) ?_
    refine q1 (ia ar103 rfl rfl (by decide) (by decide)) ?_
    refine qtail ?_
    refine lsti 0 rfl rfl rfl Tryd.sizeOf96 (lb rfl) rfl ?_
    refine lnil ?_
    refine nblkN ?_
    refine nthen ?_
    refine creg ?_
    first | refine l1 (addn rfl rfl (ri (by omega) (by omega))) ?_ | refine l1 (add rfl rfl) ?_
    refine l1 (mvi rfl) ?_
    refine lnil ?_
    refine nround (rsucc ?_)
    refine cseq ?_
    refine creg ?_
    refine l1 (lss rfl rfl) ?_
    refine lnil ?_
    refine nthen ?_
    refine cseq ?_
    refine cift rfl ?_
    refine cskip ?_
    refine nthen ?_
    refine cseq ?_
    refine cblock ?_
    refine cseq ?_
    refine creg ?_
    refine l1 (mvi rfl) ?_
    refine l1 (asgi rfl) ?_
    refine lnil ?_
    refine nthen ?_
    refine cregT 11 mo (by kernel_rfl) ?_
    refine q1 (mv rfl) ?_
    refine q1 (mvi rfl) ?_
    refine q1 (nilc rfl) ?_
    refine q1 (ia ar103 rfl rfl (by decide) (by decide)) ?_
    refine q1 (ldc 0 Tryd.isAgg96 rfl rfl rfl) ?_
    refine q1 (mvi rfl) ?_
    refine q1 (ia ar103 rfl rfl (by decide) (by decide)) ?_
    refine q1 (ldc 2 Tryd.isAgg96 rfl rfl rfl) ?_
    refine q1 (uadd uk32 rfl rfl) ?_
    refine q1 (nilc rfl) ?_
    refine q1 (ia ar103 rfl rfl (by decide) (by decide)) ?_
    refine qtail ?_
    refine lsti 0 rfl rfl rfl Tryd.sizeOf96 (lb rfl) rfl ?_
    refine lnil ?_
    refine nblkN ?_
    refine nthen ?_
    refine creg ?_
    first | refine l1 (addn rfl rfl (ri (by omega) (by omega))) ?_ | refine l1 (add rfl rfl) ?_
    refine l1 (mvi rfl) ?_
    refine lnil ?_
    refine nround (rsucc ?_)
    refine cseq ?_
    refine creg ?_
    refine l1 (lss rfl rfl) ?_
    refine lnil ?_
    refine nthen ?_
    refine cseq ?_
    refine cift rfl ?_
    refine cskip ?_
    refine nthen ?_
    refine cseq ?_
    refine cblock ?_
    refine cseq ?_
    refine creg ?_
    refine l1 (mvi rfl) ?_
    refine l1 (asgi rfl) ?_
    refine lnil ?_
    refine nthen ?_
    refine cregT 11 mo (by kernel_rfl) ?_
    refine q1 (mv rfl) ?_
    refine q1 (mvi rfl) ?_
    refine q1 (nilc rfl) ?_
    refine q1 (ia ar103 rfl rfl (by decide) (by decide)) ?_
    refine q1 (ldc 0 Tryd.isAgg96 rfl rfl rfl) ?_
    refine q1 (mvi rfl) ?_
    refine q1 (ia ar103 rfl rfl (by decide) (by decide)) ?_
    refine q1 (ldc 2 Tryd.isAgg96 rfl rfl rfl) ?_
    refine q1 (uadd uk32 rfl rfl) ?_
    refine q1 (nilc rfl) ?_
    refine q1 (ia ar103 rfl rfl (by decide) (by decide)) ?_
    refine qtail ?_
    refine lsti 0 rfl rfl rfl Tryd.sizeOf96 (lb rfl) rfl ?_
    refine lnil ?_
    refine nblkN ?_
    refine nthen ?_
    refine creg ?_
    first | refine l1 (addn rfl rfl (ri (by omega) (by omega))) ?_ | refine l1 (add rfl rfl) ?_
    refine l1 (mvi rfl) ?_
    refine lnil ?_
    refine nround (rsucc ?_)
    refine cseq ?_
    refine creg ?_
    refine l1 (lss rfl rfl) ?_
    refine lnil ?_
    refine nthen ?_
    refine cseq ?_
    refine cift rfl ?_
    refine cskip ?_
    refine nthen ?_
    refine cseq ?_
    refine cblock ?_
    refine cseq ?_
    refine creg ?_
    refine l1 (mvi rfl) ?_
    refine l1 (asgi rfl) ?_
    refine lnil ?_
    refine nthen ?_
    refine cregT 11 mo (by kernel_rfl) ?_
    refine q1 (mv rfl) ?_
    refine q1 (mvi rfl) ?_
    refine q1 (nilc rfl) ?_
    refine q1 (ia ar103 rfl rfl (by decide) (by decide)) ?_
    refine q1 (ldc 0 Tryd.isAgg96 rfl rfl rfl) ?_
    refine q1 (mvi rfl) ?_
    refine q1 (ia ar103 rfl rfl (by decide) (by decide)) ?_
    refine q1 (ldc 2 Tryd.isAgg96 rfl rfl rfl) ?_
    refine q1 (uadd uk32 rfl rfl) ?_
    refine q1 (nilc rfl) ?_
    refine q1 (ia ar103 rfl rfl (by decide) (by decide)) ?_
    refine qtail ?_
    refine lsti 0 rfl rfl rfl Tryd.sizeOf96 (lb rfl) rfl ?_
    refine lnil ?_
    refine nblkN ?_
    refine nthen ?_
    refine creg ?_
    first | refine l1 (addn rfl rfl (ri (by omega) (by omega))) ?_ | refine l1 (add rfl rfl) ?_
    refine l1 (mvi rfl) ?_
    refine lnil ?_
    refine nround (rsucc ?_)
    refine cseq ?_
    refine creg ?_
    refine l1 (lss rfl rfl) ?_
    refine lnil ?_
    refine nthen ?_
    refine cseq ?_
    refine ciff rfl ?_
    refine cexit ?_
    refine nthenE ?_
    refine nroundE ?_
    refine nblkE ?_
    exact finSn (⟨b, encS (mixS l s), 103⟩ :: T) rfl ⟨⟨b, encS (mixS l s), 103⟩ :: T, List.Perm.refl _, by rw [show encS (mixS l s) = encS (addS s v) by rw [← hv]; rfl]; exact List.Sublist.cons_cons _ (List.Sublist.cons _ (List.Sublist.cons _ (List.Sublist.refl _)))⟩ rfl

end Go.Proofs.YtkafnafgmnlnpaaDoor
/- walks, printed by a program of ours -/
namespace Go.Proofs.YtkafnafgmnlnpaaDoor
open Jal Go Go.RowKit
set_option maxRecDepth 100000
theorem el45 : ElT Tryd.prog 45 5 1 1 := ⟨_, _, Tryd.underlying45, rfl, rfl, rfl, rfl, rfl, by decide⟩
theorem bs45z : ∀ w : World, (Instr.buildSlice 45 0 (List.toArray [])).run Tryd.prog w = .ok (.slice (some ⟨w.heap.size, 0, none⟩) 0 0) (w.alloc (.cells [].toArray 5)) := fun w => by kernel_rfl
theorem bs45 (a : Int) : ∀ w : World, (Instr.buildSlice 45 1 (List.toArray [(0, .int .u8 a)])).run Tryd.prog w = .ok (.slice (some ⟨w.heap.size, 0, none⟩) 1 1) (w.alloc (.cells [.int .u8 a].toArray 5)) := fun w => by kernel_rfl

theorem putbig_calls {w0 w : World} {T : List Ent} (b o c x : Nat) (cur : List Value) (te : TypeId) (hsat : Sat w0 (⟨b, cur, te⟩ :: T) w) (hc : o + 4 ≤ cur.length) : Calls Tryd.prog 61 #[.slice (some ⟨b, o, none⟩) 4 c, .int .u64 (x : Nat)] w (RetS w0 (fun v Hn => Hn = ⟨b, cur.take o ++ bN (bytes32 x) ++ cur.drop (o + 4), te⟩ :: T)) := by
  refine fn_callsH (n := 23) (H := ⟨b, cur, te⟩ :: T) hsat Tryd.func61 rfl rfl (lb rfl) ?_
  refine cseq ?_
  refine creg ?_
  refine l1 (mvs rfl) ?_
  refine l1 (lens sl45 rfl rfl) ?_
  refine l1 (mvi rfl) ?_
  refine lnil ?_
  refine nthen ?_
  refine cblock ?_
  refine cloopN 5 ?_
  refine rsucc ?_
  refine cseq ?_
  refine creg ?_
  refine l1 (lss rfl rfl) ?_
  refine lnil ?_
  refine nthen ?_
  refine cseq ?_
  refine cift rfl ?_
  refine cskip ?_
  refine nthen ?_
  refine cseq ?_
  refine cblock ?_
  refine cseq ?_
  refine creg ?_
  refine l1 (mvi rfl) ?_
  refine l1 (asgi rfl) ?_
  refine lnil ?_
  refine nthen ?_
  refine creg ?_
  refine l1 (mvs rfl) ?_
  refine l1 (mvi rfl) ?_
  refine l1 (mvi rfl) ?_
  refine l1 (mvs rfl) ?_
  refine l1 (lens sl45 rfl rfl) ?_
  refine l1 (nsub (a := 4) (b := 1) rfl rfl (by decide) (by decide)) ?_
  refine l1 (mvi rfl) ?_
  refine l1 (nsub (a := 3) (b := 0) rfl rfl (by decide) (by decide)) ?_
  refine l1 (nmul (a := 8) (b := 3) rfl rfl (by decide)) ?_
  refine l1 (ushr uk64 (n := 24) (by decide) rfl rfl) ?_
  refine l1 (cvu uk8 ⟨_, Tryd.underlying50⟩ Tryd.underlying5 rfl) ?_
  refine l1 (is sl45 rfl rfl (by decide) (by decide)) ?_
  refine lsti 0 rfl rfl rfl Tryd.sizeOf5 (by (try simp only [List.length_set]); exact Nat.lt_of_lt_of_le (Nat.add_lt_add_left (show _ < 4 by decide) o) hc) rfl ?_
  refine lnil ?_
  refine nblkN ?_
  refine nthen ?_
  refine creg ?_
  first | refine l1 (addn rfl rfl (ri (by omega) (by omega))) ?_ | refine l1 (add rfl rfl) ?_
  refine l1 (mvi rfl) ?_
  refine lnil ?_
  refine nround (rsucc ?_)
  refine cseq ?_
  refine creg ?_
  refine l1 (lss rfl rfl) ?_
  refine lnil ?_
  refine nthen ?_
  refine cseq ?_
  refine cift rfl ?_
  refine cskip ?_
  refine nthen ?_
  refine cseq ?_
  refine cblock ?_
  refine cseq ?_
  refine creg ?_
  refine l1 (mvi rfl) ?_
  refine l1 (asgi rfl) ?_
  refine lnil ?_
  refine nthen ?_
  refine creg ?_
  refine l1 (mvs rfl) ?_
  refine l1 (mvi rfl) ?_
  refine l1 (mvi rfl) ?_
  refine l1 (mvs rfl) ?_
  refine l1 (lens sl45 rfl rfl) ?_
  refine l1 (nsub (a := 4) (b := 1) rfl rfl (by decide) (by decide)) ?_
  refine l1 (mvi rfl) ?_
  refine l1 (nsub (a := 3) (b := 1) rfl rfl (by decide) (by decide)) ?_
  refine l1 (nmul (a := 8) (b := 2) rfl rfl (by decide)) ?_
  refine l1 (ushr uk64 (n := 16) (by decide) rfl rfl) ?_
  refine l1 (cvu uk8 ⟨_, Tryd.underlying50⟩ Tryd.underlying5 rfl) ?_
  refine l1 (is sl45 rfl rfl (by decide) (by decide)) ?_
  refine lsti 0 rfl rfl rfl Tryd.sizeOf5 (by (try simp only [List.length_set]); exact Nat.lt_of_lt_of_le (Nat.add_lt_add_left (show _ < 4 by decide) o) hc) rfl ?_
  refine lnil ?_
  refine nblkN ?_
  refine nthen ?_
  refine creg ?_
  first | refine l1 (addn rfl rfl (ri (by omega) (by omega))) ?_ | refine l1 (add rfl rfl) ?_
  refine l1 (mvi rfl) ?_
  refine lnil ?_
  refine nround (rsucc ?_)
  refine cseq ?_
  refine creg ?_
  refine l1 (lss rfl rfl) ?_
  refine lnil ?_
  refine nthen ?_
  refine cseq ?_
  refine cift rfl ?_
  refine cskip ?_
  refine nthen ?_
  refine cseq ?_
  refine cblock ?_
  refine cseq ?_
  refine creg ?_
  refine l1 (mvi rfl) ?_
  refine l1 (asgi rfl) ?_
  refine lnil ?_
  refine nthen ?_
  refine creg ?_
  refine l1 (mvs rfl) ?_
  refine l1 (mvi rfl) ?_
  refine l1 (mvi rfl) ?_
  refine l1 (mvs rfl) ?_
  refine l1 (lens sl45 rfl rfl) ?_
  refine l1 (nsub (a := 4) (b := 1) rfl rfl (by decide) (by decide)) ?_
  refine l1 (mvi rfl) ?_
  refine l1 (nsub (a := 3) (b := 2) rfl rfl (by decide) (by decide)) ?_
  refine l1 (nmul (a := 8) (b := 1) rfl rfl (by decide)) ?_
  refine l1 (ushr uk64 (n := 8) (by decide) rfl rfl) ?_
  refine l1 (cvu uk8 ⟨_, Tryd.underlying50⟩ Tryd.underlying5 rfl) ?_
  refine l1 (is sl45 rfl rfl (by decide) (by decide)) ?_
  refine lsti 0 rfl rfl rfl Tryd.sizeOf5 (by (try simp only [List.length_set]); exact Nat.lt_of_lt_of_le (Nat.add_lt_add_left (show _ < 4 by decide) o) hc) rfl ?_
  refine lnil ?_
  refine nblkN ?_
  refine nthen ?_
  refine creg ?_
  first | refine l1 (addn rfl rfl (ri (by omega) (by omega))) ?_ | refine l1 (add rfl rfl) ?_
  refine l1 (mvi rfl) ?_
  refine lnil ?_
  refine nround (rsucc ?_)
  refine cseq ?_
  refine creg ?_
  refine l1 (lss rfl rfl) ?_
  refine lnil ?_
  refine nthen ?_
  refine cseq ?_
  refine cift rfl ?_
  refine cskip ?_
  refine nthen ?_
  refine cseq ?_
  refine cblock ?_
  refine cseq ?_
  refine creg ?_
  refine l1 (mvi rfl) ?_
  refine l1 (asgi rfl) ?_
  refine lnil ?_
  refine nthen ?_
  refine creg ?_
  refine l1 (mvs rfl) ?_
  refine l1 (mvi rfl) ?_
  refine l1 (mvi rfl) ?_
  refine l1 (mvs rfl) ?_
  refine l1 (lens sl45 rfl rfl) ?_
  refine l1 (nsub (a := 4) (b := 1) rfl rfl (by decide) (by decide)) ?_
  refine l1 (mvi rfl) ?_
  refine l1 (nsub (a := 3) (b := 3) rfl rfl (by decide) (by decide)) ?_
  refine l1 (nmul (a := 8) (b := 0) rfl rfl (by decide)) ?_
  refine l1 (ushr uk64 (n := 0) (by decide) rfl rfl) ?_
  refine l1 (cvu uk8 ⟨_, Tryd.underlying50⟩ Tryd.underlying5 rfl) ?_
  refine l1 (is sl45 rfl rfl (by decide) (by decide)) ?_
  refine lsti 0 rfl rfl rfl Tryd.sizeOf5 (by (try simp only [List.length_set]); exact Nat.lt_of_lt_of_le (Nat.add_lt_add_left (show _ < 4 by decide) o) hc) rfl ?_
  refine lnil ?_
  refine nblkN ?_
  refine nthen ?_
  refine creg ?_
  first | refine l1 (addn rfl rfl (ri (by omega) (by omega))) ?_ | refine l1 (add rfl rfl) ?_
  refine l1 (mvi rfl) ?_
  refine lnil ?_
  refine nround (rsucc ?_)
  refine cseq ?_
  refine creg ?_
  refine l1 (lss rfl rfl) ?_
  refine lnil ?_
  refine nthen ?_
  refine cseq ?_
  refine ciff rfl ?_
  refine cexit ?_
  refine nthenE ?_
  refine nroundE ?_
  refine nblkE ?_
  exact finSn _ rfl ⟨_, List.Perm.refl _, List.Sublist.refl _⟩ (congrArg (fun z => (⟨b, z, te⟩ : Ent) :: T) (set4 cur o hc _ _ _ _))

theorem appbig_calls {w0 w : World} {oe : List Ent} (p : Option Addr) (k c x : Nat) (l : List Nat) (ho : OwnL 5 1 (.slice p k c) k (bN l) oe) (hsat : Sat w0 oe w) (hk : k ≤ 100000000000000) : Calls Tryd.prog 77 #[.slice p k c, .int .u64 (x : Nat)] w (RetS w0 (fun v Hn => OwnL 5 1 v (k + 8) (bN (l ++ bytes64 x)) Hn)) := by
  refine fn_callsH (n := 18) (H := oe) hsat Tryd.func77 rfl rfl (lb rfl) ?_
  refine cseq ?_
  refine creg ?_
  refine l1 (asg rfl) ?_
  refine lnil ?_
  refine nthen ?_
  refine cseq ?_
  refine cseq ?_
  refine creg ?_
  refine l1 (asgi rfl) ?_
  refine lnil ?_
  refine nthen ?_
  refine cblock ?_
  refine cloopI (σ := Nat × Value × List Ent) (fun s => [(0, s.2.1), (1, .int .u64 (x : Nat)), (5, .int .i64 (56 - 8 * (s.1 : Nat)))]) (fun s => ([] ++ (s.2.2))) (fun s => s.1 ≤ 8 ∧ OwnL 5 1 s.2.1 (k + s.1) (bN (l ++ top64 x s.1)) s.2.2) (fun s => 8 - s.1) (0, .slice p k c, oe) ⟨Nat.zero_le _, by rw [show top64 x 0 = [] from rfl, List.append_nil]; exact ho⟩ ⟨rfl, rfl, rfl, trivial⟩ (List.Sublist.refl _) ?_
  rintro ⟨i, v3, oe⟩ j hI; replace hI : i ≤ 8 ∧ OwnL 5 1 v3 (k + i) (bN (l ++ top64 x i)) oe := hI; obtain ⟨hi, hown⟩ := hI; obtain ⟨p3, c3, rfl⟩ := hown.form
  show WC _ _ _ ((oe)) _ _ (over j [(0, .slice p3 (k + i) c3), (1, .int .u64 (x : Nat)), (5, .int .i64 (56 - 8 * (i : Nat)))])
  refine cseq ?_
  refine cseq ?_
  refine creg ?_
  refine l1 (mvi rfl) ?_
  refine l1 (geq rfl rfl) ?_
  refine lnil ?_
  refine nthen ?_
  refine cif rfl (fun h1 => ?_) (fun h1 => ?_)
  · have hlt : i < 8 := by (have := dt h1; omega)
    refine cskip ?_
    refine nthen ?_
    refine cseq ?_
    refine cblock ?_
    refine creg ?_
    refine l1 (mvs rfl) ?_
    refine l1 (mvi rfl) ?_
    refine l1 (mvi rfl) ?_
    refine l1 (ushr uk64 (n := 56 - 8 * i) (by omega) rfl (by show Value.int _ _ = Value.int _ _; exact congrArg (Value.int .i64) (by omega))) ?_
    refine l1 (cvu uk8 ⟨_, Tryd.underlying50⟩ Tryd.underlying5 rfl) ?_
    refine lbs Tryd.underlying45 rfl (bs45 _) (fun b1 => ?_)
    refine wl_perm (ins_perm 0 _ _) ?_
    refine lapp [_] [] oe el45 (by rw [List.append_nil]; rfl) rfl hown rfl (news := bN [x / 2 ^ (56 - 8 * i) % 2 ^ 8]) rfl (fun w' hw => hw.mem (i := 0) rfl 0) (bN_one _) (by decide) (by unfold maxLen; omega) (by omega) ?_
    intro g' cap oe' hown'
    rw [List.append_nil]
    refine l1 (asgs rfl) ?_
    refine lnil ?_
    refine nblkN ?_
    refine nthen ?_
    refine creg ?_
    refine l1 (mvi rfl) ?_
    refine l1 (subn (b := 8) rfl rfl (ri (by omega) (by omega))) ?_
    refine l1 (asgi rfl) ?_
    refine lnil ?_
    exact nI (i + 1, .slice (some ⟨g', 0, none⟩) (k + i + 1) cap, oe') ⟨by omega, by rw [top64_succ, ← List.append_assoc, bN_append]; exact hown'⟩ (by show 8 - (i + 1) < 8 - i; omega) ⟨rfl, rfl, congrArg (Value.int .i64) (by omega), trivial⟩ (List.Sublist.cons _ (List.Sublist.refl _))
  · have hge : i = 8 := by (have := df h1; omega)
    subst hge
    refine cexit ?_
    refine nthenE ?_
    refine nIE ?_
    refine nblkE ?_
    refine nthen ?_
    refine cseq ?_
    refine creg ?_
    refine l1 (mvs rfl) ?_
    refine l1 (asg rfl) ?_
    refine lnil ?_
    refine nthen ?_
    refine cret ?_
    exact finS (.slice p3 (k + 8) c3) oe (rv1 rfl (rvt rfl)) ⟨oe, List.Perm.refl _, List.Sublist.refl _⟩ (by rw [← top64_all]; exact hown)

theorem clone_calls (b o n c : Nat) (l : List Nat) (w : World) (hl : By w b o l) (hn : l.length = n) (h0 : 0 < n) (hk : n ≤ 100000000000000) : Calls Tryd.prog 76 #[.slice (some ⟨b, o, none⟩) n c] w (RetM (fun v Hn => OwnL 5 1 v n (bN l) Hn) w) := by
  refine fn_calls (n := 8) Tryd.func76 rfl rfl (lb rfl) ?_
  refine cseq ?_
  refine creg ?_
  refine l1 (asg rfl) ?_
  refine lnil ?_
  refine nthen ?_
  refine cseq ?_
  refine cseq ?_
  refine creg ?_
  refine l1 (mvs rfl) ?_
  refine l1 (eqnil sl45 rfl rfl) ?_
  refine lnil ?_
  refine nthen ?_
  refine ciff rfl ?_
  refine cskip ?_
  refine nthen ?_
  refine cseq ?_
  refine creg ?_
  refine lbs Tryd.underlying45 rfl (bs45z) (fun b1 => ?_)
  refine l1 (mvs rfl) ?_
  refine lapp (xs := []) [] [] [⟨b1, [], 5⟩] el45 rfl rfl ⟨rfl, .inr ⟨b1, 0, [], rfl, rfl, Nat.le_refl _, Nat.zero_le _, rfl, rfl⟩⟩ rfl (news := bN l) (by rw [bN_len, hn, Nat.mul_one]) (fun w' hw => (hl.keptS hw).mem) (bN_one _) h0 (by unfold maxLen; omega) (by omega) ?_
  intro g' cap oe' hown'
  rw [List.nil_append, List.append_nil]
  rw [Nat.zero_add, List.nil_append] at hown'
  rw [Nat.zero_add]
  refine l1 (asg rfl) ?_
  refine lnil ?_
  refine nthen ?_
  refine cret ?_
  exact finM _ oe' (rv1 rfl (rvt rfl)) ⟨oe', List.Perm.refl _, List.Sublist.refl _⟩ hown'

theorem padded_calls (b o n c : Nat) (l : List Nat) (w : World) (hl : By w b o l) (hn : l.length = n) (h0 : 0 < n) (hk : n ≤ 1000000000000) : Calls Tryd.prog 58 #[.slice (some ⟨b, o, none⟩) n c] w (RetM (fun v Hn => OwnL 5 1 v (padL l).length (bN (padL l)) Hn) w) := by
  refine fn_calls (n := 21) Tryd.func58 rfl rfl (lb rfl) ?_
  refine cseq ?_
  refine creg ?_
  refine l1 (asg rfl) ?_
  refine lnil ?_
  refine nthen ?_
  refine cseq ?_
  refine creg ?_
  refine l1 (mvs rfl) ?_
  refine lclm hb76 rfl (mc rfl mn) (fun w' hw => clone_calls b o n c l w' (hl.keptS hw) hn h0 (by omega)) ?_
  rintro v5 H5 k5
  obtain ⟨p5, c5, rfl⟩ := k5.form
  refine lbs Tryd.underlying45 rfl (bs45 _) (fun b1 => ?_)
  refine wl_perm (ins_perm 0 _ _) ?_
  refine lapp [_] [] H5 el45 (by rw [List.append_nil]; rfl) rfl k5 rfl (news := bN [128]) rfl (fun w' hw => hw.mem (i := 0) rfl 0) (bN_one _) (by decide) (by unfold maxLen; omega) (by omega) ?_
  intro g7 c7 o7 k7
  rw [← bN_append] at k7
  rw [List.append_nil]
  refine l1 (asgs rfl) ?_
  refine lnil ?_
  refine nthen ?_
  refine cseq ?_
  refine cblock ?_
  refine cloopI (σ := Nat × Value × List Ent) (fun s => [(0, .slice (some ⟨b, o, none⟩) n c), (3, s.2.1)]) (fun s => ([] ++ (s.2.2))) (fun s => s.1 ≤ zerosN n ∧ OwnL 5 1 s.2.1 (n + 1 + s.1) (bN (zpad l s.1)) s.2.2) (fun s => zerosN n - s.1) (0, _, o7) ⟨Nat.zero_le _, k7⟩ ⟨rfl, rfl, trivial⟩ (List.Sublist.cons _ (List.Sublist.refl _)) ?_
  rintro ⟨i, v3, oe⟩ j hI; replace hI : i ≤ zerosN n ∧ OwnL 5 1 v3 (n + 1 + i) (bN (zpad l i)) oe := hI; obtain ⟨hi, hown⟩ := hI; obtain ⟨p3, c3, rfl⟩ := hown.form; have hz := zerosN_b n
  show WC _ _ _ ((oe)) _ _ (over j [(0, .slice (some ⟨b, o, none⟩) n c), (3, .slice p3 (n + 1 + i) c3)])
  refine cseq ?_
  refine cseq ?_
  refine creg ?_
  refine l1 (mvs rfl) ?_
  refine l1 (lens sl45 rfl rfl) ?_
  refine l1 (remn (r := (((n + 1 + i) % 64 : Nat) : Int)) rfl rfl (by decide) (Int.ofNat_tmod _ _).symm) ?_
  refine l1 (neq rfl rfl) ?_
  refine lnil ?_
  refine nthen ?_
  refine cif rfl (fun h1 => ?_) (fun h1 => ?_)
  · skip
    refine cskip ?_
    refine nthen ?_
    refine cblock ?_
    refine creg ?_
    refine l1 (mvs rfl) ?_
    refine lbs Tryd.underlying45 rfl (bs45 _) (fun b2 => ?_)
    refine wl_perm (ins_perm 0 _ _) ?_
    refine lapp [_] [] oe el45 (by rw [List.append_nil]; rfl) rfl hown rfl (news := bN [0]) rfl (fun w' hw => hw.mem (i := 0) rfl 0) (bN_one _) (by decide) (by unfold maxLen; omega) (by omega) ?_
    intro g' cap oe' hown'
    rw [List.append_nil]
    refine l1 (asgs rfl) ?_
    refine lnil ?_
    refine nblkN ?_
    exact nI (i + 1, .slice (some ⟨g', 0, none⟩) (n + 1 + i + 1) cap, oe') ⟨zpad_yes h1 hi, by rw [zpad_succ, bN_append]; exact hown'⟩ (by have := zpad_yes h1 hi; show zerosN n - (i + 1) < zerosN n - i; omega) ⟨rfl, rfl, trivial⟩ (List.Sublist.cons _ (List.Sublist.refl _))
  · have hie := zpad_no h1 hi
    refine cexit ?_
    refine nthenE ?_
    refine nIE ?_
    refine nblkE ?_
    refine nthen ?_
    refine cseq ?_
    refine creg ?_
    refine l1 (mvs rfl) ?_
    refine l1 (mvs rfl) ?_
    refine l1 (lens sl45 rfl rfl) ?_
    refine l1 (cvus uk64 ⟨_, Tryd.underlying3⟩ Tryd.underlying50 rfl (by omega)) ?_
    refine l1 (umul uk64 (a := 8) rfl rfl) ?_
    refine lcls oe hb77 rfl (mc rfl (mc rfl mn)) (fun w' hw => appbig_calls p3 (n + 1 + i) c3 (8 * n % 2 ^ 64) (zpad l i) hown hw (by omega)) ⟨oe, List.Perm.refl _, List.Sublist.refl _⟩ ?_
    rintro v20 H20 k20
    refine l1 (asg rfl) ?_
    refine lnil ?_
    refine nthen ?_
    refine cret ?_
    exact finM v20 H20 (rv1 rfl (rvt rfl)) ⟨H20, List.Perm.refl _, List.Sublist.refl _⟩ (by rw [padL_len, hn, ← hie]; unfold padL; rw [hn, ← hie]; show OwnL 5 1 v20 (n + 9 + i) (bN (zpad l i ++ bytes64 (8 * n % 2 ^ 64))) H20; rw [show n + 9 + i = n + 1 + i + 8 by omega]; exact k20)

end Go.Proofs.YtkafnafgmnlnpaaDoor
/- bytes.Join: the library's contract laid here (in plain words, by the kit's lay-plain), and turned to bytes as natural numbers -/
namespace Go.Proofs.YtkafnafgmnlnpaaDoor
open Go.Shelf Jal
def joinLaid_ren : Go.Shelf.Ren := ⟨fun | 14 => 59 | 15 => 78 | n => n, fun | 26 => 77 | 22 => 45 | 3 => 3 | 4 => 4 | 0 => 0 | 9 => 9 | 20 => 20 | 5 => 5 | n => n, fun | n => n⟩
theorem joinLaid : Go.Proofs.SlLaysJ.n14 Tryd.prog joinLaid_ren := {
  mixed := by kernel_rfl
  f14 := Tryd.func59.trans (congrArg some (by kernel_rfl))
  f15 := Tryd.func78.trans (congrArg some (by kernel_rfl))
  t0 := Tryd.underlying0
  a0 := Tryd.isAgg0
  z0 := Tryd.sizeOf0
  v0 := Tryd.zeroValue0
  t3 := Tryd.underlying3
  a3 := Tryd.isAgg3
  z3 := Tryd.sizeOf3
  v3 := Tryd.zeroValue3
  t4 := Tryd.underlying4
  a4 := Tryd.isAgg4
  z4 := Tryd.sizeOf4
  v4 := Tryd.zeroValue4
  t9 := Tryd.underlying9
  a9 := Tryd.isAgg9
  z9 := Tryd.sizeOf9
  v9 := Tryd.zeroValue9
  t20 := Tryd.underlying20
  a20 := Tryd.isAgg20
  z20 := Tryd.sizeOf20
  v20 := Tryd.zeroValue20
  t22 := Tryd.underlying45
  a22 := Tryd.isAgg45
  z22 := Tryd.sizeOf45
  v22 := Tryd.zeroValue45
  t26 := Tryd.underlying77
  a26 := Tryd.isAgg77
  z26 := Tryd.sizeOf77
  v26 := Tryd.zeroValue77
  t5 := Tryd.underlying5
  z5 := Tryd.sizeOf5
  i5 := by kernel_rfl }

theorem ofNat_inj {x : Int} {y : Nat} (h0 : 0 ≤ x) (h1 : x < 256) (hy : y < 256) (h : UInt8.ofNat x.toNat = UInt8.ofNat y) : x = (y : Int) := by
  have h2 := congrArg UInt8.toNat h
  simp only [UInt8.toNat_ofNat'] at h2
  omega
theorem lens_eq (ls : List (List Nat)) : Lib.lens (ls.map fun l => l.map UInt8.ofNat) = ls.flatten.length := by
  unfold Lib.lens
  rw [List.length_flatten, List.map_map]
  congr 1
  apply List.map_congr_left
  intro l _
  simp
theorem join_eq (ls : List (List Nat)) : Lib.join (ls.map fun l => l.map UInt8.ofNat) [] = ls.flatten.map UInt8.ofNat := by
  cases ls with
  | nil => rfl
  | cons x r =>
    rw [List.map_cons, Lib.join_cons]
    unfold Lib.joinTail
    rw [List.flatten_cons, List.map_append, List.map_flatten, List.map_map]
    congr 2
theorem join_calls (b o n c : Nat) (ls : List (List Nat)) (w : World) (h : PartsN w b o ls) (hn : ls.length = n) (h2 : 2 ≤ n) (hc : n ≤ c) (hn2 : n ≤ 1000000) (h0 : 0 < ls.flatten.length) (hk : ls.flatten.length ≤ 1000000000000) :
    Calls Tryd.prog 59 #[.slice (some ⟨b, o, none⟩) n c, .slice none 0 0] w (RetX (fun v w' => ∃ g cap, v = .slice (some ⟨g, 0, none⟩) ls.flatten.length cap ∧ By w' g 0 ls.flatten) w) := by
  obtain ⟨vs, hl, hm, hv⟩ := h
  have hP : Lib.PartsAt w ⟨b, o, none⟩ vs (ls.map fun l => l.map UInt8.ofNat) := by
    refine ⟨by rw [List.length_map]; exact hl, hm, fun i v l hi hj => ?_⟩
    rw [List.getElem?_map] at hj
    obtain ⟨l', hl', rfl⟩ := Option.map_eq_some_iff.1 hj
    obtain ⟨hb, p, cap, rfl, hp, ha⟩ := hv i v l' hi hl'
    refine ⟨p, cap, by rw [List.length_map], fun e => by rw [hp e]; rfl, fun a e j x hx => ?_⟩
    rw [List.getElem?_map] at hx
    obtain ⟨y, hy, rfl⟩ := Option.map_eq_some_iff.1 hx
    have hy2 := hb y (List.mem_of_getElem? hy)
    rw [ha a e j (.int .u8 (y : Int)) (by rw [bN_get, hy]; rfl)]
    simp only [UInt8.toNat_ofNat']
    rw [Nat.mod_eq_of_lt hy2]
  have hok : OkB ls.flatten := fun y hy => by
    obtain ⟨l, hl1, hy1⟩ := List.mem_flatten.1 hy
    obtain ⟨i, hi⟩ := List.mem_iff_getElem?.1 hl1
    have hiv : i < vs.length := by rw [hl]; exact (List.getElem?_eq_some_iff.1 hi).1
    exact (hv i _ l (List.getElem?_eq_getElem hiv) hi).1 y hy1
  refine (Any.bytes_Join_many joinLaid b o n c vs _ (.slice none 0 0) [] w (by rw [List.length_map]; exact hn) h2 hP hc ⟨none, 0, rfl, fun _ => rfl, fun _ e => by cases e⟩ (by omega) (by rw [lens_eq, List.length_nil, Nat.zero_mul, Nat.add_zero]; omega)).mono fun e w' ⟨v, h1, h3, h4⟩ => ⟨v, h1, ?_, h4⟩
  rw [join_eq] at h3
  obtain ⟨g, cap, zs, rfl, hB, hlc, hcm, hz, hzr, hzb, hcell, _⟩ := h3
  rw [List.length_map] at hlc hzb ⊢
  have hat : ∀ i, i < ls.flatten.length → w'.cell? ⟨g, i, none⟩ = some (.int .u8 (ls.flatten.getD i 0 : Nat)) := fun i hi => by
    rw [hcell i (by omega)]
    have hiz : i < zs.length := by omega
    have e1 : (Lib.bytesOf (zs.take ls.flatten.length))[i]? = some (UInt8.ofNat (zs.getD i 0).toNat) := by
      unfold Lib.bytesOf
      rw [List.getElem?_map, List.getElem?_take, if_pos hi, List.getElem?_eq_getElem hiz, List.getD_eq_getElem?_getD, List.getElem?_eq_getElem hiz]; rfl
    rw [hzb, List.getElem?_map, List.getElem?_eq_getElem hi] at e1
    have e2 := Option.some.inj e1
    have hr := hzr (zs.getD i 0) (by rw [List.getD_eq_getElem?_getD, List.getElem?_eq_getElem hiz]; exact List.getElem_mem hiz)
    rw [ofNat_inj (x := zs.getD i 0) (y := ls.flatten.getD i 0) hr.1 hr.2 (hok.getD i) (by rw [← e2, List.getD_eq_getElem?_getD, List.getElem?_eq_getElem hi]; rfl)]
  refine ⟨g, cap, rfl, ⟨?_, ?_, hok⟩⟩
  · have h5 := hat 0 h0
    unfold World.cell? at h5
    rcases Nat.lt_or_ge g w'.heap.size with h6 | h6
    · exact h6
    · simp only [Array.getElem?_eq_none h6] at h5; cases h5
  · intro j v hj
    rw [Addr.add_off, Nat.zero_add]
    rw [bN_get] at hj
    obtain ⟨y, hy, rfl⟩ := Option.map_eq_some_iff.1 hj
    have hlt := (List.getElem?_eq_some_iff.1 hy).1
    rw [hat j hlt, List.getD_eq_getElem?_getD, hy]; rfl
end Go.Proofs.YtkafnafgmnlnpaaDoor
/- walks, printed by a program of ours -/
namespace Go.Proofs.YtkafnafgmnlnpaaDoor
open Jal Go Go.RowKit
set_option maxRecDepth 100000
theorem own_pos {p : Option Addr} {n c : Nat} {xs : List Value} {oe : List Ent} (h : OwnL 5 1 (.slice p n c) n xs oe) (hn : 0 < n) : ∃ g, p = some ⟨g, 0, none⟩ := by
  rcases h.2 with ⟨_, h0, _⟩ | ⟨g, cap, cur, h1, _⟩
  · omega
  · cases h1; exact ⟨g, rfl⟩
theorem own_by {w0 w : World} {H oe : List Ent} {g m c : Nat} {L : List Nat} (h : OwnL 5 1 (.slice (some ⟨g, 0, none⟩) m c) m (bN L) oe) (hk : OkB L) (hs : oe.Sublist H) (hw : Sat w0 H w) : By w g 0 L := by
  rcases h.2 with ⟨h0, _⟩ | ⟨g', cap, cur, h1, rfl, _, _, _, ht⟩
  · cases h0
  · cases h1
    have hw' := hw.sub hs
    refine ⟨hw'.lt (e := ⟨g, cur, 5⟩) (by simp), fun j v hv => ?_, hk⟩
    refine hw'.mem (i := 0) (e := ⟨g, cur, 5⟩) rfl 0 j v ?_
    rw [← ht, List.getElem?_take] at hv
    split at hv
    · simpa using hv
    · cases hv
theorem padL_pos (l : List Nat) : 0 < (padL l).length := by rw [padL_len]; omega
theorem blk_yes {l : List Nat} {i : Nat} (h : decide (((64 * i : Nat) : Int) < ((padL l).length : Int)) = true) : i < (padL l).length / 64 := by
  have h := of_decide_eq_true h; have := padL_mod l; omega
theorem blk_no {l : List Nat} {i : Nat} (h : decide (((64 * i : Nat) : Int) < ((padL l).length : Int)) = false) (hi : i ≤ (padL l).length / 64) : i = (padL l).length / 64 := by
  have h := of_decide_eq_false h; have := padL_mod l; omega

set_option maxHeartbeats 1000000 in
theorem sum_calls (b o n c : Nat) (ls : List (List Nat)) (w : World) (hP : PartsK w b o ls) (hR : Rounds w) (hn : ls.length = n) (h2 : 2 ≤ n) (hc : n ≤ c) (hn2 : n ≤ 1000000) (h0 : 0 < ls.flatten.length) (hk : ls.flatten.length ≤ 1000000000000) : Calls Tryd.prog 46 #[.slice (some ⟨b, o, none⟩) n c] w (Ret (.agg (bN (shaL ls.flatten)).toArray) w) := by
  refine fn_calls (n := 41) Tryd.func46 rfl rfl (lb rfl) ?_
  have hok := hP.ok
  refine cseq ?_
  refine creg ?_
  refine lal (zs := List.replicate 32 (.int .u8 0)) Tryd.zeroValue23 rfl (fun b1 => ?_)
  refine lnil ?_
  refine nthen ?_
  refine cseq ?_
  refine creg ?_
  refine l1 (cl hb57 rfl mn (fun w hw => start_calls w)) ?_
  refine lal Tryd.zeroValue103 rfl (fun b2 => ?_)
  refine lstw 1 rfl rfl rfl Tryd.sizeOf103 rfl rfl rfl ?_
  refine lnil ?_
  refine nthen ?_
  refine cseq ?_
  refine creg ?_
  refine l1 (mvs rfl) ?_
  refine lcc (φ := fun v Hn => OwnL 5 1 v (padL ls.flatten).length (bN (padL ls.flatten)) Hn) (args2 := fun v => [v]) hb59 rfl (mc rfl (mc rfl mn)) (fun w' hw => join_calls b o n c ls w' (hP.keptS hw) hn h2 hc hn2 h0 hk) hb58 (fun _ => rfl) (fun _ => mc rfl mn) (fun v w' _ ⟨g, cap, e, hb⟩ => by subst e; exact padded_calls g 0 _ cap _ w' hb rfl h0 hk) ?_
  intro v11 v12 H12 k12
  obtain ⟨p12, c12, rfl⟩ := k12.form
  obtain ⟨g12, rfl⟩ := own_pos k12 (padL_pos _)
  have hcap := (OwnL_cap k12).1
  refine l1 (asg rfl) ?_
  refine lnil ?_
  refine nthen ?_
  refine cseq ?_
  refine cseq ?_
  refine creg ?_
  refine l1 (asgi rfl) ?_
  refine lnil ?_
  refine nthen ?_
  refine cblock ?_
  refine cloopI (σ := Nat) (fun s => [(2, .pointer (some ⟨b1, 0, none⟩)), (3, .pointer (some ⟨b2, 0, none⟩)), (4, .slice (some ⟨g12, 0, none⟩) (padL ls.flatten).length c12), (5, .int .i64 (64 * s : Nat))]) (fun s => ([⟨b1, List.replicate 32 (.int .u8 0), 23⟩, ⟨b2, encS (blocksN (padL ls.flatten) s), 103⟩] ++ (H12))) (fun s => s ≤ (padL ls.flatten).length / 64) (fun s => (padL ls.flatten).length / 64 - s) 0 (Nat.zero_le _) ⟨rfl, rfl, rfl, rfl, trivial⟩ (List.Sublist.refl _) ?_
  rintro i j hi
  show WC _ _ _ (⟨b1, List.replicate 32 (.int .u8 0), 23⟩ :: ⟨b2, encS (blocksN (padL ls.flatten) i), 103⟩ :: (H12)) _ _ (over j [(2, .pointer (some ⟨b1, 0, none⟩)), (3, .pointer (some ⟨b2, 0, none⟩)), (4, .slice (some ⟨g12, 0, none⟩) (padL ls.flatten).length c12), (5, .int .i64 (64 * i : Nat))])
  replace hi : i ≤ (padL ls.flatten).length / 64 := hi; have hpm := padL_mod ls.flatten; have hpl := padL_len ls.flatten; have hpz := zerosN_b ls.flatten.length
  refine cseq ?_
  refine cseq ?_
  refine creg ?_
  refine l1 (mvi rfl) ?_
  refine l1 (mvs rfl) ?_
  refine l1 (lens sl45 rfl rfl) ?_
  refine l1 (lss rfl rfl) ?_
  refine lnil ?_
  refine nthen ?_
  refine cif rfl (fun h1 => ?_) (fun h1 => ?_)
  · have hlt := blk_yes h1
    refine cskip ?_
    refine nthen ?_
    refine cseq ?_
    refine cblock ?_
    refine creg ?_
    refine l1 (mvs rfl) ?_
    refine l1 (mvi rfl) ?_
    refine l1 (mvi rfl) ?_
    refine l1 (nadd (b := 64) rfl rfl (by omega)) ?_
    refine l1 (sllhe (l := 64 * i) (h := 64 * i + 64) (o' := 64 * i) (m := 64) (c' := c12 - 64 * i) Tryd.underlying45 Tryd.sizeOf5 rfl rfl rfl (by omega) (by omega) (by omega) (by omega) (by omega) rfl) ?_
    refine lcls (⟨b2, encS (blocksN (padL ls.flatten) i), 103⟩ :: ⟨b1, List.replicate 32 (.int .u8 0), 23⟩ :: H12) hb60 rfl (mc rfl (mc rfl mn)) (fun w' hw => mix_calls b2 g12 (64 * i) (c12 - 64 * i) (blocksN (padL ls.flatten) i) (((padL ls.flatten).drop (64 * i)).take 64) (OkS.blocksN _ _) hw hR (fun w2 hw2 => by have hpt := (own_by k12 (OkB.padL hok) (List.sublist_cons_self _ _) hw2).part (64 * i) 64; rwa [Nat.zero_add] at hpt) (by rw [List.length_take, List.length_drop]; omega) (by omega)) ⟨_, List.Perm.swap _ _ _, List.Sublist.refl _⟩ ?_
    intro v24 H24 k24; subst k24
    refine wl_perm (List.Perm.swap _ _ _) ?_
    refine lnil ?_
    refine nblkN ?_
    refine nthen ?_
    refine creg ?_
    refine l1 (mvi rfl) ?_
    refine l1 (nadd (b := 64) rfl rfl (by omega)) ?_
    refine l1 (asgi rfl) ?_
    refine lnil ?_
    rw [← blocksN_succ]
    exact nI (i + 1) (by show i + 1 ≤ (padL ls.flatten).length / 64; exact hlt) (by show (padL ls.flatten).length / 64 - (i + 1) < (padL ls.flatten).length / 64 - i; omega) ⟨rfl, rfl, rfl, rfl, trivial⟩ (List.Sublist.refl _)
  · have hie := blk_no h1 hi
    generalize hS : blocksN (padL ls.flatten) i = S
    have kS : OkS S := hS ▸ OkS.blocksN _ _
    refine cexit ?_
    refine nthenE ?_
    refine nIE ?_
    refine nblkE ?_
    refine nthen ?_
    refine cseq ?_
    refine creg ?_
    refine lal (zs := List.replicate 32 (.int .u8 0)) Tryd.zeroValue23 rfl (fun b3 => ?_)
    refine wl_perm (ins_perm 2 _ _) ?_
    refine lnil ?_
    refine nthen ?_
    refine cseq ?_
    refine cseq ?_
    refine creg ?_
    refine l1 (ldw 1 Tryd.isAgg103 Tryd.sizeOf103 rfl rfl rfl) ?_
    refine wl_sub (H' := [⟨b1, List.replicate 32 (.int .u8 0), 23⟩, ⟨b3, List.replicate 32 (.int .u8 0), 23⟩]) (List.Sublist.cons_cons _ (List.Sublist.cons _ (List.Sublist.cons_cons _ (List.nil_sublist _)))) ?_
    change WL _ _ _ _ [⟨b1, List.replicate 32 (.int .u8 0), 23⟩, ⟨b3, bN ([]) ++ List.replicate 32 (.int .u8 0), 23⟩] _ _ _
    refine l1 (mvi rfl) ?_
    refine lnil ?_
    refine nthen ?_
    refine cblock ?_
    refine cloopN 9 ?_
    refine rsucc ?_
    refine cseq ?_
    refine creg ?_
    refine l1 (lss rfl rfl) ?_
    refine lnil ?_
    refine nthen ?_
    refine cseq ?_
    refine cift rfl ?_
    refine cskip ?_
    refine nthen ?_
    refine cseq ?_
    refine cblock ?_
    refine cseq ?_
    refine creg ?_
    refine l1 (mvi rfl) ?_
    refine l1 (ixv (v := .int .u32 (S.a : Int)) Tryd.underlying103 Tryd.sizeOf96 Tryd.isAgg96 rfl rfl (by decide) (by decide) rfl) ?_
    refine l1 (asgi rfl) ?_
    refine l1 (asgi rfl) ?_
    refine lnil ?_
    refine nthen ?_
    refine creg ?_
    refine l1 (mvi rfl) ?_
    refine l1 (nmul (a := 4) (b := 0) rfl rfl (by decide)) ?_
    refine l1 (mvi rfl) ?_
    refine l1 (nmul (a := 4) (b := 0) rfl rfl (by decide)) ?_
    refine l1 (nadd (a := 0) (b := 4) rfl rfl (by decide)) ?_
    refine l1 (slarr (l := 0) (h := 4) Tryd.underlying23 Tryd.sizeOf5 rfl rfl rfl (by decide) (by decide) (by decide)) ?_
    refine l1 (mvi rfl) ?_
    refine l1 (cvus uk64 ⟨_, Tryd.underlying96⟩ Tryd.underlying50 rfl (by have := kS.a; omega)) ?_
    refine lcls [⟨b3, bN ([]) ++ List.replicate 32 (.int .u8 0), 23⟩, ⟨b1, List.replicate 32 (.int .u8 0), 23⟩] hb61 rfl (mc rfl (mc rfl mn)) (fun w' hw => putbig_calls b3 _ _ S.a _ 23 hw (lb rfl)) ⟨_, List.Perm.swap _ _ _, List.Sublist.refl _⟩ ?_
    intro v38 H38 k38; subst k38
    refine wl_perm (List.Perm.swap _ _ _) ?_
    change WL _ _ _ _ [⟨b1, List.replicate 32 (.int .u8 0), 23⟩, ⟨b3, bN (bytes32 S.a) ++ List.replicate 28 (.int .u8 0), 23⟩] _ _ _
    refine lnil ?_
    refine nblkN ?_
    refine nthen ?_
    refine creg ?_
    first | refine l1 (addn rfl rfl (ri (by omega) (by omega))) ?_ | refine l1 (add rfl rfl) ?_
    refine l1 (mvi rfl) ?_
    refine lnil ?_
    refine nround (rsucc ?_)
    refine cseq ?_
    refine creg ?_
    refine l1 (lss rfl rfl) ?_
    refine lnil ?_
    refine nthen ?_
    refine cseq ?_
    refine cift rfl ?_
    refine cskip ?_
    refine nthen ?_
    refine cseq ?_
    refine cblock ?_
    refine cseq ?_
    refine creg ?_
    refine l1 (mvi rfl) ?_
    refine l1 (ixv (v := .int .u32 (S.b : Int)) Tryd.underlying103 Tryd.sizeOf96 Tryd.isAgg96 rfl rfl (by decide) (by decide) rfl) ?_
    refine l1 (asgi rfl) ?_
    refine l1 (asgi rfl) ?_
    refine lnil ?_
    refine nthen ?_
    refine creg ?_
    refine l1 (mvi rfl) ?_
    refine l1 (nmul (a := 4) (b := 1) rfl rfl (by decide)) ?_
    refine l1 (mvi rfl) ?_
    refine l1 (nmul (a := 4) (b := 1) rfl rfl (by decide)) ?_
    refine l1 (nadd (a := 4) (b := 4) rfl rfl (by decide)) ?_
    refine l1 (slarr (l := 4) (h := 8) Tryd.underlying23 Tryd.sizeOf5 rfl rfl rfl (by decide) (by decide) (by decide)) ?_
    refine l1 (mvi rfl) ?_
    refine l1 (cvus uk64 ⟨_, Tryd.underlying96⟩ Tryd.underlying50 rfl (by have := kS.b; omega)) ?_
    refine lcls [⟨b3, bN (bytes32 S.a) ++ List.replicate 28 (.int .u8 0), 23⟩, ⟨b1, List.replicate 32 (.int .u8 0), 23⟩] hb61 rfl (mc rfl (mc rfl mn)) (fun w' hw => putbig_calls b3 _ _ S.b _ 23 hw (lb rfl)) ⟨_, List.Perm.swap _ _ _, List.Sublist.refl _⟩ ?_
    intro v38 H38 k38; subst k38
    refine wl_perm (List.Perm.swap _ _ _) ?_
    change WL _ _ _ _ [⟨b1, List.replicate 32 (.int .u8 0), 23⟩, ⟨b3, bN (bytes32 S.a ++ bytes32 S.b) ++ List.replicate 24 (.int .u8 0), 23⟩] _ _ _
    refine lnil ?_
    refine nblkN ?_
    refine nthen ?_
    refine creg ?_
    first | refine l1 (addn rfl rfl (ri (by omega) (by omega))) ?_ | refine l1 (add rfl rfl) ?_
    refine l1 (mvi rfl) ?_
    refine lnil ?_
    refine nround (rsucc ?_)
    refine cseq ?_
    refine creg ?_
    refine l1 (lss rfl rfl) ?_
    refine lnil ?_
    refine nthen ?_
    refine cseq ?_
    refine cift rfl ?_
    refine cskip ?_
    refine nthen ?_
    refine cseq ?_
    refine cblock ?_
    refine cseq ?_
    refine creg ?_
    refine l1 (mvi rfl) ?_
    refine l1 (ixv (v := .int .u32 (S.c : Int)) Tryd.underlying103 Tryd.sizeOf96 Tryd.isAgg96 rfl rfl (by decide) (by decide) rfl) ?_
    refine l1 (asgi rfl) ?_
    refine l1 (asgi rfl) ?_
    refine lnil ?_
    refine nthen ?_
    refine creg ?_
    refine l1 (mvi rfl) ?_
    refine l1 (nmul (a := 4) (b := 2) rfl rfl (by decide)) ?_
    refine l1 (mvi rfl) ?_
    refine l1 (nmul (a := 4) (b := 2) rfl rfl (by decide)) ?_
    refine l1 (nadd (a := 8) (b := 4) rfl rfl (by decide)) ?_
    refine l1 (slarr (l := 8) (h := 12) Tryd.underlying23 Tryd.sizeOf5 rfl rfl rfl (by decide) (by decide) (by decide)) ?_
    refine l1 (mvi rfl) ?_
    refine l1 (cvus uk64 ⟨_, Tryd.underlying96⟩ Tryd.underlying50 rfl (by have := kS.c; omega)) ?_
    refine lcls [⟨b3, bN (bytes32 S.a ++ bytes32 S.b) ++ List.replicate 24 (.int .u8 0), 23⟩, ⟨b1, List.replicate 32 (.int .u8 0), 23⟩] hb61 rfl (mc rfl (mc rfl mn)) (fun w' hw => putbig_calls b3 _ _ S.c _ 23 hw (lb rfl)) ⟨_, List.Perm.swap _ _ _, List.Sublist.refl _⟩ ?_
    intro v38 H38 k38; subst k38
    refine wl_perm (List.Perm.swap _ _ _) ?_
    change WL _ _ _ _ [⟨b1, List.replicate 32 (.int .u8 0), 23⟩, ⟨b3, bN (bytes32 S.a ++ bytes32 S.b ++ bytes32 S.c) ++ List.replicate 20 (.int .u8 0), 23⟩] _ _ _
    refine lnil ?_
    refine nblkN ?_
    refine nthen ?_
    refine creg ?_
    first | refine l1 (addn rfl rfl (ri (by omega) (by omega))) ?_ | refine l1 (add rfl rfl) ?_
    refine l1 (mvi rfl) ?_
    refine lnil ?_
    refine nround (rsucc ?_)
    refine cseq ?_
    refine creg ?_
    refine l1 (lss rfl rfl) ?_
    refine lnil ?_
    refine nthen ?_
    refine cseq ?_
    refine cift rfl ?_
    refine cskip ?_
    refine nthen ?_
    refine cseq ?_
    refine cblock ?_
    refine cseq ?_
    refine creg ?_
    refine l1 (mvi rfl) ?_
    refine l1 (ixv (v := .int .u32 (S.d : Int)) Tryd.underlying103 Tryd.sizeOf96 Tryd.isAgg96 rfl rfl (by decide) (by decide) rfl) ?_
    refine l1 (asgi rfl) ?_
    refine l1 (asgi rfl) ?_
    refine lnil ?_
    refine nthen ?_
    refine creg ?_
    refine l1 (mvi rfl) ?_
    refine l1 (nmul (a := 4) (b := 3) rfl rfl (by decide)) ?_
    refine l1 (mvi rfl) ?_
    refine l1 (nmul (a := 4) (b := 3) rfl rfl (by decide)) ?_
    refine l1 (nadd (a := 12) (b := 4) rfl rfl (by decide)) ?_
    refine l1 (slarr (l := 12) (h := 16) Tryd.underlying23 Tryd.sizeOf5 rfl rfl rfl (by decide) (by decide) (by decide)) ?_
    refine l1 (mvi rfl) ?_
    refine l1 (cvus uk64 ⟨_, Tryd.underlying96⟩ Tryd.underlying50 rfl (by have := kS.d; omega)) ?_
    refine lcls [⟨b3, bN (bytes32 S.a ++ bytes32 S.b ++ bytes32 S.c) ++ List.replicate 20 (.int .u8 0), 23⟩, ⟨b1, List.replicate 32 (.int .u8 0), 23⟩] hb61 rfl (mc rfl (mc rfl mn)) (fun w' hw => putbig_calls b3 _ _ S.d _ 23 hw (lb rfl)) ⟨_, List.Perm.swap _ _ _, List.Sublist.refl _⟩ ?_
    intro v38 H38 k38; subst k38
    refine wl_perm (List.Perm.swap _ _ _) ?_
    change WL _ _ _ _ [⟨b1, List.replicate 32 (.int .u8 0), 23⟩, ⟨b3, bN (bytes32 S.a ++ bytes32 S.b ++ bytes32 S.c ++ bytes32 S.d) ++ List.replicate 16 (.int .u8 0), 23⟩] _ _ _
    refine lnil ?_
    refine nblkN ?_
    refine nthen ?_
    refine creg ?_
    first | refine l1 (addn rfl rfl (ri (by omega) (by omega))) ?_ | refine l1 (add rfl rfl) ?_
    refine l1 (mvi rfl) ?_
    refine lnil ?_
    refine nround (rsucc ?_)
    refine cseq ?_
    refine creg ?_
    refine l1 (lss rfl rfl) ?_
    refine lnil ?_
    refine nthen ?_
    refine cseq ?_
    refine cift rfl ?_
    refine cskip ?_
    refine nthen ?_
    refine cseq ?_
    refine cblock ?_
    refine cseq ?_
    refine creg ?_
    refine l1 (mvi rfl) ?_
    refine l1 (ixv (v := .int .u32 (S.e : Int)) Tryd.underlying103 Tryd.sizeOf96 Tryd.isAgg96 rfl rfl (by decide) (by decide) rfl) ?_
    refine l1 (asgi rfl) ?_
    refine l1 (asgi rfl) ?_
    refine lnil ?_
    refine nthen ?_
    refine creg ?_
    refine l1 (mvi rfl) ?_
    refine l1 (nmul (a := 4) (b := 4) rfl rfl (by decide)) ?_
    refine l1 (mvi rfl) ?_
    refine l1 (nmul (a := 4) (b := 4) rfl rfl (by decide)) ?_
    refine l1 (nadd (a := 16) (b := 4) rfl rfl (by decide)) ?_
    refine l1 (slarr (l := 16) (h := 20) Tryd.underlying23 Tryd.sizeOf5 rfl rfl rfl (by decide) (by decide) (by decide)) ?_
    refine l1 (mvi rfl) ?_
    refine l1 (cvus uk64 ⟨_, Tryd.underlying96⟩ Tryd.underlying50 rfl (by have := kS.e; omega)) ?_
    refine lcls [⟨b3, bN (bytes32 S.a ++ bytes32 S.b ++ bytes32 S.c ++ bytes32 S.d) ++ List.replicate 16 (.int .u8 0), 23⟩, ⟨b1, List.replicate 32 (.int .u8 0), 23⟩] hb61 rfl (mc rfl (mc rfl mn)) (fun w' hw => putbig_calls b3 _ _ S.e _ 23 hw (lb rfl)) ⟨_, List.Perm.swap _ _ _, List.Sublist.refl _⟩ ?_
    intro v38 H38 k38; subst k38
    refine wl_perm (List.Perm.swap _ _ _) ?_
    change WL _ _ _ _ [⟨b1, List.replicate 32 (.int .u8 0), 23⟩, ⟨b3, bN (bytes32 S.a ++ bytes32 S.b ++ bytes32 S.c ++ bytes32 S.d ++ bytes32 S.e) ++ List.replicate 12 (.int .u8 0), 23⟩] _ _ _
    refine lnil ?_
    refine nblkN ?_
    refine nthen ?_
    refine creg ?_
    first | refine l1 (addn rfl rfl (ri (by omega) (by omega))) ?_ | refine l1 (add rfl rfl) ?_
    refine l1 (mvi rfl) ?_
    refine lnil ?_
    refine nround (rsucc ?_)
    refine cseq ?_
    refine creg ?_
    refine l1 (lss rfl rfl) ?_
    refine lnil ?_
    refine nthen ?_
    refine cseq ?_
    refine cift rfl ?_
    refine cskip ?_
    refine nthen ?_
    refine cseq ?_
    refine cblock ?_
    refine cseq ?_
    refine creg ?_
    refine l1 (mvi rfl) ?_
    refine l1 (ixv (v := .int .u32 (S.f : Int)) Tryd.underlying103 Tryd.sizeOf96 Tryd.isAgg96 rfl rfl (by decide) (by decide) rfl) ?_
    refine l1 (asgi rfl) ?_
    refine l1 (asgi rfl) ?_
    refine lnil ?_
    refine nthen ?_
    refine creg ?_
    refine l1 (mvi rfl) ?_
    refine l1 (nmul (a := 4) (b := 5) rfl rfl (by decide)) ?_
    refine l1 (mvi rfl) ?_
    refine l1 (nmul (a := 4) (b := 5) rfl rfl (by decide)) ?_
    refine l1 (nadd (a := 20) (b := 4) rfl rfl (by decide)) ?_
    refine l1 (slarr (l := 20) (h := 24) Tryd.underlying23 Tryd.sizeOf5 rfl rfl rfl (by decide) (by decide) (by decide)) ?_
    refine l1 (mvi rfl) ?_
    refine l1 (cvus uk64 ⟨_, Tryd.underlying96⟩ Tryd.underlying50 rfl (by have := kS.f; omega)) ?_
    refine lcls [⟨b3, bN (bytes32 S.a ++ bytes32 S.b ++ bytes32 S.c ++ bytes32 S.d ++ bytes32 S.e) ++ List.replicate 12 (.int .u8 0), 23⟩, ⟨b1, List.replicate 32 (.int .u8 0), 23⟩] hb61 rfl (mc rfl (mc rfl mn)) (fun w' hw => putbig_calls b3 _ _ S.f _ 23 hw (lb rfl)) ⟨_, List.Perm.swap _ _ _, List.Sublist.refl _⟩ ?_
    intro v38 H38 k38; subst k38
    refine wl_perm (List.Perm.swap _ _ _) ?_
    change WL _ _ _ _ [⟨b1, List.replicate 32 (.int .u8 0), 23⟩, ⟨b3, bN (bytes32 S.a ++ bytes32 S.b ++ bytes32 S.c ++ bytes32 S.d ++ bytes32 S.e ++ bytes32 S.f) ++ List.replicate 8 (.int .u8 0), 23⟩] _ _ _
    refine lnil ?_
    refine nblkN ?_
    refine nthen ?_
    refine creg ?_
    first | refine l1 (addn rfl rfl (ri (by omega) (by omega))) ?_ | refine l1 (add rfl rfl) ?_
    refine l1 (mvi rfl) ?_
    refine lnil ?_
    refine nround (rsucc ?_)
    refine cseq ?_
    refine creg ?_
    refine l1 (lss rfl rfl) ?_
    refine lnil ?_
    refine nthen ?_
    refine cseq ?_
    refine cift rfl ?_
    refine cskip ?_
    refine nthen ?_
    refine cseq ?_
    refine cblock ?_
    refine cseq ?_
    refine creg ?_
    refine l1 (mvi rfl) ?_
    refine l1 (ixv (v := .int .u32 (S.g : Int)) Tryd.underlying103 Tryd.sizeOf96 Tryd.isAgg96 rfl rfl (by decide) (by decide) rfl) ?_
    refine l1 (asgi rfl) ?_
    refine l1 (asgi rfl) ?_
    refine lnil ?_
    refine nthen ?_
    refine creg ?_
    refine l1 (mvi rfl) ?_
    refine l1 (nmul (a := 4) (b := 6) rfl rfl (by decide)) ?_
    refine l1 (mvi rfl) ?_
    refine l1 (nmul (a := 4) (b := 6) rfl rfl (by decide)) ?_
    refine l1 (nadd (a := 24) (b := 4) rfl rfl (by decide)) ?_
    refine l1 (slarr (l := 24) (h := 28) Tryd.underlying23 Tryd.sizeOf5 rfl rfl rfl (by decide) (by decide) (by decide)) ?_
    refine l1 (mvi rfl) ?_
    refine l1 (cvus uk64 ⟨_, Tryd.underlying96⟩ Tryd.underlying50 rfl (by have := kS.g; omega)) ?_
    refine lcls [⟨b3, bN (bytes32 S.a ++ bytes32 S.b ++ bytes32 S.c ++ bytes32 S.d ++ bytes32 S.e ++ bytes32 S.f) ++ List.replicate 8 (.int .u8 0), 23⟩, ⟨b1, List.replicate 32 (.int .u8 0), 23⟩] hb61 rfl (mc rfl (mc rfl mn)) (fun w' hw => putbig_calls b3 _ _ S.g _ 23 hw (lb rfl)) ⟨_, List.Perm.swap _ _ _, List.Sublist.refl _⟩ ?_
    intro v38 H38 k38; subst k38
    refine wl_perm (List.Perm.swap _ _ _) ?_
    change WL _ _ _ _ [⟨b1, List.replicate 32 (.int .u8 0), 23⟩, ⟨b3, bN (bytes32 S.a ++ bytes32 S.b ++ bytes32 S.c ++ bytes32 S.d ++ bytes32 S.e ++ bytes32 S.f ++ bytes32 S.g) ++ List.replicate 4 (.int .u8 0), 23⟩] _ _ _
    refine lnil ?_
    refine nblkN ?_
    refine nthen ?_
    refine creg ?_
    first | refine l1 (addn rfl rfl (ri (by omega) (by omega))) ?_ | refine l1 (add rfl rfl) ?_
    refine l1 (mvi rfl) ?_
    refine lnil ?_
    refine nround (rsucc ?_)
    refine cseq ?_
    refine creg ?_
    refine l1 (lss rfl rfl) ?_
    refine lnil ?_
    refine nthen ?_
    refine cseq ?_
    refine cift rfl ?_
    refine cskip ?_
    refine nthen ?_
    refine cseq ?_
    refine cblock ?_
    refine cseq ?_
    refine creg ?_
    refine l1 (mvi rfl) ?_
    refine l1 (ixv (v := .int .u32 (S.h : Int)) Tryd.underlying103 Tryd.sizeOf96 Tryd.isAgg96 rfl rfl (by decide) (by decide) rfl) ?_
    refine l1 (asgi rfl) ?_
    refine l1 (asgi rfl) ?_
    refine lnil ?_
    refine nthen ?_
    refine creg ?_
    refine l1 (mvi rfl) ?_
    refine l1 (nmul (a := 4) (b := 7) rfl rfl (by decide)) ?_
    refine l1 (mvi rfl) ?_
    refine l1 (nmul (a := 4) (b := 7) rfl rfl (by decide)) ?_
    refine l1 (nadd (a := 28) (b := 4) rfl rfl (by decide)) ?_
    refine l1 (slarr (l := 28) (h := 32) Tryd.underlying23 Tryd.sizeOf5 rfl rfl rfl (by decide) (by decide) (by decide)) ?_
    refine l1 (mvi rfl) ?_
    refine l1 (cvus uk64 ⟨_, Tryd.underlying96⟩ Tryd.underlying50 rfl (by have := kS.h; omega)) ?_
    refine lcls [⟨b3, bN (bytes32 S.a ++ bytes32 S.b ++ bytes32 S.c ++ bytes32 S.d ++ bytes32 S.e ++ bytes32 S.f ++ bytes32 S.g) ++ List.replicate 4 (.int .u8 0), 23⟩, ⟨b1, List.replicate 32 (.int .u8 0), 23⟩] hb61 rfl (mc rfl (mc rfl mn)) (fun w' hw => putbig_calls b3 _ _ S.h _ 23 hw (lb rfl)) ⟨_, List.Perm.swap _ _ _, List.Sublist.refl _⟩ ?_
    intro v38 H38 k38; subst k38
    refine wl_perm (List.Perm.swap _ _ _) ?_
    change WL _ _ _ _ [⟨b1, List.replicate 32 (.int .u8 0), 23⟩, ⟨b3, bN (bytes32 S.a ++ bytes32 S.b ++ bytes32 S.c ++ bytes32 S.d ++ bytes32 S.e ++ bytes32 S.f ++ bytes32 S.g ++ bytes32 S.h) ++ List.replicate 0 (.int .u8 0), 23⟩] _ _ _
    refine lnil ?_
    refine nblkN ?_
    refine nthen ?_
    refine creg ?_
    first | refine l1 (addn rfl rfl (ri (by omega) (by omega))) ?_ | refine l1 (add rfl rfl) ?_
    refine l1 (mvi rfl) ?_
    refine lnil ?_
    refine nround (rsucc ?_)
    refine cseq ?_
    refine creg ?_
    refine l1 (lss rfl rfl) ?_
    refine lnil ?_
    refine nthen ?_
    refine cseq ?_
    refine ciff rfl ?_
    refine cexit ?_
    refine nthenE ?_
    refine nroundE ?_
    refine nblkE ?_
    refine nthen ?_
    refine cseq ?_
    refine creg ?_
    refine l1 (ldw 1 Tryd.isAgg23 Tryd.sizeOf23 rfl rfl rfl) ?_
    refine lstw 0 rfl rfl rfl Tryd.sizeOf23 rfl rfl rfl ?_
    refine lnil ?_
    refine nthen ?_
    refine cret ?_
    exact finc 0 rfl Tryd.isAgg23 Tryd.sizeOf23 rfl rfl rfl (by unfold shaL; rw [← hie, hS]; rfl)

end Go.Proofs.YtkafnafgmnlnpaaDoor
/- walks, printed by a program of ours -/
namespace Go.Proofs.YtkafnafgmnlnpaaDoor
open Jal Go Go.RowKit
set_option maxRecDepth 100000
theorem el77 : ElT Tryd.prog 77 45 1 24 := ⟨_, _, Tryd.underlying77, rfl, rfl, rfl, rfl, rfl, by decide⟩
theorem bs77 (p : Option Addr) (n c : Nat) : ∀ w : World, (Instr.buildSlice 77 1 (List.toArray [(0, .slice p n c)])).run Tryd.prog w = .ok (.slice (some ⟨w.heap.size, 0, none⟩) 1 1) (w.alloc (.cells [.slice p n c].toArray 45)) := fun w => by kernel_rfl
theorem bs77b (p : Option Addr) (n c : Nat) (q : Option Addr) (m d : Nat) : ∀ w : World, (Instr.buildSlice 77 2 (List.toArray [(0, .slice p n c), (1, .slice q m d)])).run Tryd.prog w = .ok (.slice (some ⟨w.heap.size, 0, none⟩) 2 2) (w.alloc (.cells [.slice p n c, .slice q m d].toArray 45)) := fun w => by kernel_rfl

set_option maxHeartbeats 1000000 in
theorem mac_calls (bk ok n ck b o m c : Nat) (K : List Nat) (ls : List (List Nat)) (vs : List Value) (w : World) (hK : By w bk ok K) (hKn : K.length = n) (hn : n ≤ 64) (hbl : b < w.heap.size) (hvm : Mem w ⟨b, o, none⟩ vs) (hv : PartVs w vs ls) (hok : OkB ls.flatten) (hR : Rounds w) (hm : ls.length = m) (h1 : 1 ≤ m) (hc : m ≤ c) (hm2 : m ≤ 100000) (hk : ls.flatten.length ≤ 100000000000) : Calls Tryd.prog 33 #[.slice (some ⟨bk, ok, none⟩) n ck, .slice (some ⟨b, o, none⟩) m c] w (Ret (.agg (bN (macL K ls.flatten)).toArray) w) := by
  refine fn_calls (n := 46) Tryd.func33 rfl rfl (lb rfl) ?_
  have hvl : vs.length = m := by rw [hv.len, hm]
  refine cseq ?_
  refine creg ?_
  refine lal (zs := List.replicate 32 (.int .u8 0)) Tryd.zeroValue23 rfl (fun b1 => ?_)
  refine lnil ?_
  refine nthen ?_
  refine cseq ?_
  refine cseq ?_
  refine creg ?_
  refine l1 (mvs rfl) ?_
  refine l1 (lens sl45 rfl rfl) ?_
  refine l1 (gtr rfl rfl) ?_
  refine lnil ?_
  refine nthen ?_
  refine ciff (bf rfl (decide_eq_false (by omega))) ?_
  refine cskip ?_
  refine nthen ?_
  refine cseq ?_
  refine creg ?_
  refine lal (zs := List.replicate 64 (.int .u8 0)) Tryd.zeroValue85 rfl (fun b2 => ?_)
  refine lal (zs := List.replicate 64 (.int .u8 0)) Tryd.zeroValue85 rfl (fun b3 => ?_)
  refine lnil ?_
  refine nthen ?_
  refine cseq ?_
  refine creg ?_
  refine l1 (slall Tryd.underlying85 Tryd.sizeOf5 rfl) ?_
  refine l1 (mvs rfl) ?_
  refine lcpy 1 Tryd.underlying45 (by kernel_rfl) rfl rfl rfl (cs := bN K) (by rw [bN_len, hKn]; exact (Nat.min_eq_left hn).symm) (fun w' hw => (hK.keptS hw).mem) (by rw [bN_len]; show 0 + K.length ≤ _; simp only [List.length_replicate]; omega) (bN_one _) (kc_start K 54 (by omega)) ?_
  refine lnil ?_
  refine nthen ?_
  refine cseq ?_
  refine creg ?_
  refine l1 (slall Tryd.underlying85 Tryd.sizeOf5 rfl) ?_
  refine l1 (mvs rfl) ?_
  refine lcpy 2 Tryd.underlying45 (by kernel_rfl) rfl rfl rfl (cs := bN K) (by rw [bN_len, hKn]; exact (Nat.min_eq_left hn).symm) (fun w' hw => (hK.keptS hw).mem) (by rw [bN_len]; show 0 + K.length ≤ _; simp only [List.length_replicate]; omega) (bN_one _) (kc_start K 92 (by omega)) ?_
  refine lnil ?_
  refine nthen ?_
  refine cseq ?_
  refine cseq ?_
  refine creg ?_
  refine l1 (mvi rfl) ?_
  refine lnil ?_
  refine nthen ?_
  refine cblock ?_
  refine cloopI (σ := Nat) (fun s => [(1, .slice (some ⟨b, o, none⟩) m c), (4, .pointer (some ⟨b1, 0, none⟩)), (6, .pointer (some ⟨b2, 0, none⟩)), (7, .pointer (some ⟨b3, 0, none⟩)), (23, .int .i64 (s : Nat))]) (fun s => [⟨b1, List.replicate 32 (.int .u8 0), 23⟩, ⟨b2, kc K 54 s, 85⟩, ⟨b3, kc K 92 s, 85⟩]) (fun s => s ≤ 64) (fun s => 64 - s) 0 (Nat.zero_le _) ⟨rfl, rfl, rfl, rfl, rfl, trivial⟩ (List.Sublist.refl _) ?_
  rintro i j hi
  show WC _ _ _ ([⟨b1, List.replicate 32 (.int .u8 0), 23⟩, ⟨b2, kc K 54 i, 85⟩, ⟨b3, kc K 92 i, 85⟩]) _ _ (over j [(1, .slice (some ⟨b, o, none⟩) m c), (4, .pointer (some ⟨b1, 0, none⟩)), (6, .pointer (some ⟨b2, 0, none⟩)), (7, .pointer (some ⟨b3, 0, none⟩)), (23, .int .i64 (i : Nat))])
  replace hi : i ≤ 64 := hi
  refine cseq ?_
  refine creg ?_
  refine l1 (lss rfl rfl) ?_
  refine lnil ?_
  refine nthen ?_
  refine cseq ?_
  refine cif rfl (fun h1 => ?_) (fun h1 => ?_)
  · have hlt : i < 64 := by (have := dt h1; omega)
    refine cskip ?_
    refine nthen ?_
    refine cseq ?_
    refine cblock ?_
    refine cseq ?_
    refine creg ?_
    refine l1 (mvi rfl) ?_
    refine l1 (asgi rfl) ?_
    refine lnil ?_
    refine nthen ?_
    refine cseq ?_
    refine creg ?_
    refine l1 (mvi rfl) ?_
    refine l1 (ia ar85 rfl rfl (by omega) (by omega)) ?_
    refine l1 (ldc 1 Tryd.isAgg5 rfl rfl (kc_get K 54 i hlt)) ?_
    refine l1 (uxor uk8 (b := 54) (hK.ok.getD i) (by decide) rfl rfl) ?_
    refine l1 (ia ar85 rfl rfl (by omega) (by omega)) ?_
    refine lsti 1 rfl rfl rfl Tryd.sizeOf5 (by rw [kc_len]; omega) (kc_set K 54 i) ?_
    refine lnil ?_
    refine nthen ?_
    refine creg ?_
    refine l1 (mvi rfl) ?_
    refine l1 (ia ar85 rfl rfl (by omega) (by omega)) ?_
    refine l1 (ldc 2 Tryd.isAgg5 rfl rfl (kc_get K 92 i hlt)) ?_
    refine l1 (uxor uk8 (b := 92) (hK.ok.getD i) (by decide) rfl rfl) ?_
    refine l1 (ia ar85 rfl rfl (by omega) (by omega)) ?_
    refine lsti 2 rfl rfl rfl Tryd.sizeOf5 (by rw [kc_len]; omega) (kc_set K 92 i) ?_
    refine lnil ?_
    refine nblkN ?_
    refine nthen ?_
    refine creg ?_
    first | refine l1 (addn rfl rfl (ri (by omega) (by omega))) ?_ | refine l1 (add rfl rfl) ?_
    refine l1 (mvi rfl) ?_
    refine lnil ?_
    exact nI (i + 1) (by show i + 1 ≤ 64; omega) (by show 64 - (i + 1) < 64 - i; omega) ⟨rfl, rfl, rfl, rfl, rfl, trivial⟩ (List.Sublist.refl _)
  · have hie : i = 64 := by (have := df h1; omega)
    subst hie
    rw [kc_all, kc_all]
    refine cexit ?_
    refine nthenE ?_
    refine nIE ?_
    refine nblkE ?_
    refine nthen ?_
    refine cseq ?_
    refine creg ?_
    refine l1 (slall Tryd.underlying85 Tryd.sizeOf5 rfl) ?_
    refine lbs Tryd.underlying77 rfl (bs77 _ _ _) (fun b4 => ?_)
    refine l1 (mvs rfl) ?_
    refine lapp [_, _, _] [] [⟨b4, [.slice (some ⟨b2, 0, none⟩) 64 64], 45⟩] el77 rfl rfl ⟨rfl, .inr ⟨b4, 1, _, rfl, rfl, Nat.le_refl _, by decide, rfl, rfl⟩⟩ rfl (news := vs) (by rw [hvl, Nat.mul_one]) (fun w' hw => hvm.kept hw.below hbl) hv.one (by omega) (by unfold maxLen; omega) (by omega) ?_
    intro g40 c40 o40 k40
    rw [List.append_nil]
    have hcap := (OwnL_cap k40).1
    refine l1 (cl (v := .agg (bN (shaL ((keyX K 54) :: ls).flatten)).toArray) hb46 rfl (mc rfl mn) (fun w' hw => sum_calls g40 0 (1 + m) c40 ((keyX K 54) :: ls) w' ((show PartVs w' (_ :: vs) ((keyX K 54) :: ls) from ⟨(blk_by hw 1 rfl (keyX_ok hK.ok (by decide))).partV rfl, hv.keptS hw⟩).k (own_memV k40 (List.sublist_append_right _ _) hw).1 (own_memV k40 (List.sublist_append_right _ _) hw).2 ((keyX_ok hK.ok (by decide)).append hok)) (hR.keptS hw) (by rw [List.length_cons, hm]; omega) (by omega) hcap (by omega) (by rw [List.flatten_cons, List.length_append]; exact Nat.lt_of_lt_of_le (show 0 < 64 by decide) (Nat.le_add_right 64 _)) (by rw [List.flatten_cons, List.length_append]; have : (keyX K 54).length = 64 := rfl; omega))) ?_
    refine lal (zs := List.replicate 32 (.int .u8 0)) Tryd.zeroValue23 rfl (fun b5 => ?_)
    refine wl_perm (ins_perm 3 _ _) ?_
    refine lstw 3 rfl rfl rfl Tryd.sizeOf23 rfl rfl rfl ?_
    refine lnil ?_
    refine nthen ?_
    refine cseq ?_
    refine cregT 2 mo (by kernel_rfl) ?_
    refine q1 (slall Tryd.underlying85 Tryd.sizeOf5 rfl) ?_
    refine q1 (slall Tryd.underlying23 Tryd.sizeOf5 rfl) ?_
    refine qtail ?_
    refine lbs Tryd.underlying77 rfl (bs77b _ _ _ _ _ _) (fun b44 => ?_)
    refine wl_perm (ins_perm 4 _ _) ?_
    refine l1 (cl (v := .agg (bN (shaL [keyX K 92, shaL ((keyX K 54) :: ls).flatten].flatten)).toArray) hb46 rfl (mc rfl mn) (fun w' hw => sum_calls b44 0 2 2 [keyX K 92, shaL ((keyX K 54) :: ls).flatten] w' ((show PartVs w' [_, _] [keyX K 92, shaL ((keyX K 54) :: ls).flatten] from ⟨(blk_by hw 2 rfl (keyX_ok hK.ok (by decide))).partV rfl, (blk_by hw 3 rfl (OkB.shaL _)).partV rfl, trivial⟩).k (hw.lt (e := ⟨b44, _, 45⟩) (List.mem_of_getElem? (i := 4) rfl)) (hw.mem (i := 4) rfl 0) ((keyX_ok hK.ok (by decide)).append ((OkB.shaL _).append (fun _ h => by cases h)))) (hR.keptS hw) rfl (by decide) (by decide) (by decide) (show 0 < 96 by decide) (show 96 ≤ 1000000000000 by decide))) ?_
    refine lstw 0 rfl rfl rfl Tryd.sizeOf23 rfl rfl rfl ?_
    refine lnil ?_
    refine nthen ?_
    refine cret ?_
    exact finc 0 rfl Tryd.isAgg23 Tryd.sizeOf23 rfl rfl rfl (by unfold macL; rw [List.flatten_cons, List.flatten_cons, List.flatten_cons, List.flatten_nil, List.append_nil])

end Go.Proofs.YtkafnafgmnlnpaaDoor
/- walks, printed by a program of ours -/
namespace Go.Proofs.YtkafnafgmnlnpaaDoor
open Jal Go Go.RowKit
set_option maxRecDepth 100000
theorem bs77c (p : Option Addr) (n c : Nat) (q : Option Addr) (m d : Nat) (r : Option Addr) (k e : Nat) : ∀ w : World, (Instr.buildSlice 77 3 (List.toArray [(0, .slice p n c), (1, .slice q m d), (2, .slice r k e)])).run Tryd.prog w = .ok (.slice (some ⟨w.heap.size, 0, none⟩) 3 3) (w.alloc (.cells [.slice p n c, .slice q m d, .slice r k e].toArray 45)) := fun w => by kernel_rfl
theorem partV_nil (w : World) (c : Nat) : PartV w (.slice none 0 c) [] := ⟨none, c, rfl, fun _ => rfl, fun a e => (by cases e)⟩
theorem strL_len (s : ByteArray) : (strL s).length = s.size := by unfold strL; rw [List.length_map]; rfl
theorem strL_ok (s : ByteArray) : OkB (strL s) := fun y hy => by
  unfold strL at hy
  obtain ⟨u, _, rfl⟩ := List.mem_map.1 hy
  exact u.toNat_lt

set_option maxHeartbeats 1000000 in
theorem expand_calls (bi oi ni ci : Nat) (K info : List Nat) (w : World) (hKo : OkB K) (hKn : K.length = 32) (hI : By w bi oi info) (hIn : info.length = ni) (hni : ni ≤ 10000000000) (hR : Rounds w) : Calls Tryd.prog 45 #[.agg (bN K).toArray, .slice (some ⟨bi, oi, none⟩) ni ci, .int .i64 32] w (RetM (fun v Hn => ∃ g c, v = .tuple [.slice (some ⟨g, 0, none⟩) 32 32, .int .i64 0].toArray ∧ OwnL 5 1 (.slice (some ⟨g, 0, none⟩) 32 c) 32 (bN (deriveL K info)) Hn) w) := by
  refine fn_calls (n := 39) Tryd.func45 rfl rfl (lb rfl) ?_
  refine cseq ?_
  refine creg ?_
  refine lbxa rfl (fun b1 => ?_)
  refine l1 (asg rfl) ?_
  refine l1 (asgi rfl) ?_
  refine lnil ?_
  refine nthen ?_
  refine cseq ?_
  refine cseq ?_
  refine creg ?_
  refine l1 (mvi rfl) ?_
  refine l1 (lss rfl rfl) ?_
  refine l1 (mvb rfl) ?_
  refine l1g rfl (gwf rfl) (fun h => mvi rfl) ?_
  refine l1g rfl (gwf rfl) (fun h => gtr (gvt h) rfl) ?_
  refine l1 (pk_or rfl rfl rfl) ?_
  refine lnil ?_
  refine nthen ?_
  refine ciff (bf rfl rfl) ?_
  refine cskip ?_
  refine nthen ?_
  refine cseq ?_
  refine creg ?_
  refine l1 (asgs rfl) ?_
  refine l1 (asgs rfl) ?_
  refine lnil ?_
  refine nthen ?_
  refine cseq ?_
  refine cseq ?_
  refine creg ?_
  refine l1 (asgi rfl) ?_
  refine lnil ?_
  refine nthen ?_
  refine cblock ?_
  refine cloopN 3 ?_
  refine rsucc ?_
  refine cseq ?_
  refine cseq ?_
  refine creg ?_
  refine l1 (mvs rfl) ?_
  refine l1 (lens sl45 rfl rfl) ?_
  refine l1 (mvi rfl) ?_
  refine l1 (lss rfl rfl) ?_
  refine lnil ?_
  refine nthen ?_
  refine cift (bt rfl rfl) ?_
  refine cskip ?_
  refine nthen ?_
  refine cseq ?_
  refine cblock ?_
  refine cseq ?_
  refine creg ?_
  refine l1 (slall Tryd.underlying23 Tryd.sizeOf5 rfl) ?_
  refine l1 (mvs rfl) ?_
  refine l1 (mvs rfl) ?_
  refine l1 (mvi rfl) ?_
  refine lbs Tryd.underlying45 rfl (bs45 _) (fun b2 => ?_)
  refine lbs Tryd.underlying77 rfl (bs77c _ _ _ _ _ _ _ _ _) (fun b3 => ?_)
  refine l1 (cl (v := .agg (bN (deriveL K info)).toArray) hb33 rfl (mc rfl (mc rfl mn)) (fun w' hw => mac_calls b1 0 32 32 b3 0 3 3 K [[], info, [1]] _ w' (blk_by hw 0 rfl hKo) hKn (by decide) (hw.lt (e := ⟨b3, _, 45⟩) (List.mem_of_getElem? (i := 2) rfl)) (hw.mem (i := 2) rfl 0) (show PartVs w' [_, _, _] [[], info, [1]] from ⟨partV_nil w' 0, (hI.keptS hw).partV hIn, (blk_by (L := [1]) hw 1 rfl (fun y hy => by rw [List.mem_singleton.1 hy]; decide)).partV rfl, trivial⟩) (OkB.append (a := info) (b := [1]) hI.ok (fun y hy => by rw [List.mem_singleton.1 hy]; decide)) (hR.keptS hw) rfl (by decide) (by decide) (by decide) (by show (info ++ [1]).length ≤ _; rw [List.length_append, hIn]; simp only [List.length_cons, List.length_nil]; omega))) ?_
  refine lal (zs := List.replicate 32 (.int .u8 0)) Tryd.zeroValue23 rfl (fun b3 => ?_)
  refine lstw 3 rfl rfl rfl Tryd.sizeOf23 rfl rfl rfl ?_
  refine lnil ?_
  refine nthen ?_
  refine cseq ?_
  refine creg ?_
  refine l1 (slall Tryd.underlying23 Tryd.sizeOf5 rfl) ?_
  refine l1 (asgs rfl) ?_
  refine lnil ?_
  refine nthen ?_
  refine creg ?_
  refine l1 (mvs rfl) ?_
  refine l1 (mvs rfl) ?_
  refine lapp (xs := []) [_, _, _, _] [] [] el45 rfl rfl (OwnL.nil 5 1) rfl (news := bN (deriveL K info)) (by rw [bN_len]; rfl) (fun w' hw => (blk_by hw 3 rfl (OkB.macL _ _)).mem) (bN_one _) (by decide) (by decide) (by decide) ?_
  intro g34 c34 o34 k34
  rw [List.nil_append] at k34
  rw [List.append_nil]
  have hcap := (OwnL_cap k34).1
  refine l1 (asgs rfl) ?_
  refine lnil ?_
  refine nblkN ?_
  refine nthen ?_
  refine creg ?_
  refine l1 (mvi rfl) ?_
  refine l1 (add rfl rfl) ?_
  refine l1 (asgi rfl) ?_
  refine lnil ?_
  refine nround (rsucc ?_)
  refine cseq ?_
  refine cseq ?_
  refine creg ?_
  refine l1 (mvs rfl) ?_
  refine l1 (lens sl45 rfl rfl) ?_
  refine l1 (mvi rfl) ?_
  refine l1 (lss rfl rfl) ?_
  refine lnil ?_
  refine nthen ?_
  refine ciff (bf rfl rfl) ?_
  refine cexit ?_
  refine nthenE ?_
  refine nroundE ?_
  refine nblkE ?_
  refine nthen ?_
  refine cseq ?_
  refine creg ?_
  refine l1 (mvs rfl) ?_
  refine l1 (mvi rfl) ?_
  refine l1 (mvi rfl) ?_
  refine l1 (sl3 (h := 32) Tryd.underlying45 Tryd.sizeOf5 rfl rfl rfl hcap) ?_
  refine l1 (asg rfl) ?_
  refine l1 (asgi rfl) ?_
  refine lnil ?_
  refine nthen ?_
  refine cret ?_
  exact finM _ o34 (rv2 rfl (rvt rfl) (rvt rfl)) ⟨o34, List.Perm.refl _, List.sublist_append_right _ _⟩ ⟨g34, c34, rfl, k34⟩

theorem derive_calls (K : List Nat) (s : ByteArray) (w : World) (hKo : OkB K) (hKn : K.length = 32) (hs : s.size ≤ 10000000000) (hR : Rounds w) : Calls Tryd.prog 31 #[.agg (bN K).toArray, .string s] w (Ret (.agg (bN (deriveL K (strL s))).toArray) w) := by
  refine fn_calls (n := 17) Tryd.func31 rfl rfl (lb rfl) ?_
  refine cseq ?_
  refine creg ?_
  refine lbxa rfl (fun b1 => ?_)
  refine lal (zs := List.replicate 32 (.int .u8 0)) Tryd.zeroValue23 rfl (fun b2 => ?_)
  refine lnil ?_
  refine nthen ?_
  refine cseq ?_
  refine creg ?_
  refine l1 (ldw 0 Tryd.isAgg23 Tryd.sizeOf23 rfl rfl (by show (bN K).length = 32; rw [bN_len]; exact hKn)) ?_
  refine l1 (mvt rfl) ?_
  refine ls2b (φ := fun v Hn => ∃ g c, v = .tuple [.slice (some ⟨g, 0, none⟩) 32 32, .int .i64 0].toArray ∧ OwnL 5 1 (.slice (some ⟨g, 0, none⟩) 32 c) 32 (bN (deriveL K (strL s))) Hn) (args2 := fun v => [.agg (bN K).toArray, v, .int .i64 32]) Tryd.underlying9 Tryd.underlying45 Tryd.underlying5 rfl hb45 (fun _ => rfl) (fun _ => mc rfl (mc rfl (mc rfl mn))) (fun b cap w' hw hlt hcap hm => expand_calls b 0 s.size cap K (strL s) w' hKo hKn ⟨hlt, hm, strL_ok s⟩ (strL_len s) hs (hR.keptS hw)) ?_
  rintro v10 v11 H11 ⟨g, c, rfl, k11⟩
  refine l1 (mv rfl) ?_
  refine l1 (ext rfl rfl) ?_
  refine l1 (ext rfl rfl) ?_
  refine l1 (asg rfl) ?_
  refine l1 (asgi rfl) ?_
  refine lnil ?_
  refine nthen ?_
  refine cseq ?_
  refine creg ?_
  refine l1 (mvs rfl) ?_
  refine l1 (s2ap Tryd.underlying23 rfl (by decide)) ?_
  refine l1 (ldam (vs := bN (deriveL K (strL s))) Tryd.isAgg23 Tryd.sizeOf23 rfl (by rw [bN_len]; rfl) (fun w' hw => (own_memV k11 (List.sublist_append_right _ _) hw).2)) ?_
  refine lstw 1 rfl rfl rfl Tryd.sizeOf23 (by rw [bN_len]; rfl) rfl (List.all_eq_true.2 (bN_one _)) ?_
  refine lnil ?_
  refine nthen ?_
  refine cret ?_
  exact finc 1 rfl Tryd.isAgg23 Tryd.sizeOf23 rfl rfl (by rw [bN_len]; rfl) rfl

end Go.Proofs.YtkafnafgmnlnpaaDoor
/- walks, printed by a program of ours -/
namespace Go.Proofs.YtkafnafgmnlnpaaDoor
open Jal Go Go.RowKit
set_option maxRecDepth 100000
theorem bcmp_calls (p q : Option Addr) (n m c d : Nat) (xs ys : List Int) (w : World) (hx : BySl w p n xs) (hy : BySl w q m ys) (hxr : ∀ x ∈ xs, 0 ≤ x ∧ x ≤ 255) (hyr : ∀ x ∈ ys, 0 ≤ x ∧ x ≤ 255) : Calls Tryd.prog 47 #[.slice p n c, .slice q m d] w (Ret (.int .i64 (lexI xs ys)) w) := by
  refine fn_calls (n := 8) Tryd.func47 rfl rfl (lb rfl) ?_
  refine cseq ?_
  refine creg ?_
  refine l1 (asgi rfl) ?_
  refine lnil ?_
  refine nthen ?_
  refine cseq ?_
  refine creg ?_
  refine l1 (mvs rfl) ?_
  refine l1 (mvs rfl) ?_
  refine l1 (clx ex62 rfl (mc rfl (mc rfl mn)) (fun w' hw => run_compare (hx.keptS hw) (hy.keptS hw) hxr hyr)) ?_
  refine l1 (asgi rfl) ?_
  refine lnil ?_
  refine nthen ?_
  refine cret ?_
  exact fin1 rfl rfl

theorem tcmp_calls (f g : Nat → Int) (hf : ∀ j, j < 16 → 0 ≤ f j ∧ f j ≤ 255) (hg : ∀ j, j < 16 → 0 ≤ g j ∧ g j ≤ 255) (w : World) : Calls Tryd.prog 34 #[.agg (arr .u8 16 f).toArray, .agg (arr .u8 16 g).toArray] w (Ret (.int .i64 (lexI (tl 16 f) (tl 16 g))) w) := by
  refine fn_calls (n := 8) Tryd.func34 rfl rfl (lb rfl) ?_
  refine cseq ?_
  refine creg ?_
  refine lbxa rfl (fun b1 => ?_)
  refine lbxa rfl (fun b2 => ?_)
  refine l1 (asgi rfl) ?_
  refine lnil ?_
  refine nthen ?_
  refine cseq ?_
  refine cregq mo (by kernel_rfl) ?_
  refine q1 (slall Tryd.underlying41 Tryd.sizeOf5 rfl) ?_
  refine q1 (slall Tryd.underlying41 Tryd.sizeOf5 rfl) ?_
  refine q1 (cl hb47 rfl (mc rfl (mc rfl mn)) (fun w hw => bcmp_calls _ _ _ _ _ _ _ _ w (bySl_own hw (i := 0) rfl) (bySl_own hw (i := 1) rfl) (tl_mem hf) (tl_mem hg))) ?_
  refine q1 (asgi rfl) ?_
  refine qnil ?_
  refine nthen ?_
  refine cret ?_
  exact fin1 rfl rfl

theorem arr_at {k : IntKind} {n : Nat} (f : Nat → Int) {i : Nat} (h : i < n) : (arr k n f)[0 + ((i : Int)).toNat * 1]? = some (.int k (f i)) := by
  have := arr_get (k := k) (f := f) h; simpa using this

theorem less_calls (f g : Nat → Int) (w : World) : Calls Tryd.prog 35 #[.agg (arr .u8 16 f).toArray, .agg (arr .u8 16 g).toArray] w (Ret (.bool (lessT f g)) w) := by
  refine fn_calls (n := 24) Tryd.func35 rfl rfl (lb rfl) ?_
  refine cseq ?_
  refine creg ?_
  refine lbxa rfl (fun b1 => ?_)
  refine lbxa rfl (fun b2 => ?_)
  refine l1 (asgb rfl) ?_
  refine lnil ?_
  refine nthen ?_
  refine cseq ?_
  refine cseq ?_
  refine creg ?_
  refine l1 (asgi rfl) ?_
  refine lnil ?_
  refine nthen ?_
  refine cblock ?_
  refine cloopI (σ := Nat) (fun s => [(2, .pointer (some ⟨b1, 0, none⟩)), (3, .pointer (some ⟨b2, 0, none⟩)), (5, .int .i64 (s : Int))]) (fun s => [⟨b1, arr .u8 16 f, 41⟩, ⟨b2, arr .u8 16 g, 41⟩]) (fun s => s ≤ 16 ∧ ∀ j, j < s → f j = g j) (fun s => 16 - s) 0 ⟨Nat.zero_le _, fun j hj => by omega⟩ ⟨rfl, rfl, rfl, trivial⟩ (List.Sublist.refl _) ?_
  rintro i j hI
  show WC _ _ _ ([⟨b1, arr .u8 16 f, 41⟩, ⟨b2, arr .u8 16 g, 41⟩]) _ _ (over j [(2, .pointer (some ⟨b1, 0, none⟩)), (3, .pointer (some ⟨b2, 0, none⟩)), (5, .int .i64 (i : Int))])
  replace hI : i ≤ 16 ∧ ∀ j, j < i → f j = g j := hI
  refine cseq ?_
  refine cseq ?_
  refine creg ?_
  refine l1 (mvi rfl) ?_
  refine l1 (lss rfl rfl) ?_
  refine lnil ?_
  refine nthen ?_
  refine cif rfl (fun h1 => ?_) (fun h1 => ?_)
  · have hlt : i < 16 := by (have := dt h1; omega)
    refine cskip ?_
    refine nthen ?_
    refine cseq ?_
    refine cblock ?_
    refine cseq ?_
    refine cregq mo (by kernel_rfl) ?_
    refine q1 (mvi rfl) ?_
    refine q1 (ia ar41 rfl rfl (by omega) (by omega)) ?_
    refine q1 (ldc 0 Tryd.isAgg5 rfl rfl (arr_at _ hlt)) ?_
    refine q1 (mvi rfl) ?_
    refine q1 (ia ar41 rfl rfl (by omega) (by omega)) ?_
    refine q1 (ldc 1 Tryd.isAgg5 rfl rfl (arr_at _ hlt)) ?_
    refine q1 (neq rfl rfl) ?_
    refine qnil ?_
    refine nthen ?_
    refine cif rfl (fun h2 => ?_) (fun h2 => ?_)
    · have hne : f i ≠ g i := dt h2
      refine cseq ?_
      refine cregq mo (by kernel_rfl) ?_
      refine q1 (mvi rfl) ?_
      refine q1 (ia ar41 rfl rfl (by omega) (by omega)) ?_
      refine q1 (ldc 0 Tryd.isAgg5 rfl rfl (arr_at _ hlt)) ?_
      refine q1 (mvi rfl) ?_
      refine q1 (ia ar41 rfl rfl (by omega) (by omega)) ?_
      refine q1 (ldc 1 Tryd.isAgg5 rfl rfl (arr_at _ hlt)) ?_
      refine q1 (lss rfl rfl) ?_
      refine q1 (asgb rfl) ?_
      refine qnil ?_
      refine nthen ?_
      refine cret ?_
      refine nblkR ?_
      refine nthenR ?_
      refine nIR ?_
      refine nblkR ?_
      refine nthenR ?_
      exact fin1b rfl rfl (less_first hlt hI.2 hne)
    · have heq : f i = g i := df2 h2
      refine cskip ?_
      refine nblkN ?_
      refine nthen ?_
      refine creg ?_
      refine l1 (mvi rfl) ?_
      first | refine l1 (addn rfl rfl (ri (by omega) (by omega))) ?_ | refine l1 (add rfl rfl) ?_
      refine l1 (asgi rfl) ?_
      refine lnil ?_
      exact nI (i + 1) ⟨by omega, fun j hj => (Nat.lt_succ_iff_lt_or_eq.1 hj).elim (fun h => hI.2 j h) (fun h => by subst h; exact heq)⟩ (by show 16 - (i + 1) < 16 - i; omega) ⟨rfl, rfl, rfl, trivial⟩ (List.Sublist.refl _)
  · have hal : ∀ j, j < 16 → f j = g j := fun j hj => hI.2 j (by have := df h1; omega)
    refine cexit ?_
    refine nthenE ?_
    refine nIE ?_
    refine nblkE ?_
    refine nthen ?_
    refine cseq ?_
    refine creg ?_
    refine l1 (asgb rfl) ?_
    refine lnil ?_
    refine nthen ?_
    refine cret ?_
    exact fin1b rfl rfl (Eq.symm (less_none hal))

theorem sorted_calls (w : World) (p : Option Addr) (n c : Nat) (t : Nat → Nat → Int) (hn : (n : Int) ≤ 9223372036854775807) (hl : Sl w p n 16 (fun i => arr .u8 16 (t i))) (hr : ∀ i, i < n → ∀ j, j < 16 → 0 ≤ t i j ∧ t i j ≤ 255) : Calls Tryd.prog 13 #[.slice p n c] w (Ret (.bool (sortedT n t)) w) := by
  refine fn_calls (n := 21) Tryd.func13 rfl rfl (lb rfl) ?_
  refine cseq ?_
  refine creg ?_
  refine l1 (asgb rfl) ?_
  refine lnil ?_
  refine nthen ?_
  refine cseq ?_
  refine cseq ?_
  refine creg ?_
  refine l1 (asgi rfl) ?_
  refine lnil ?_
  refine nthen ?_
  refine cblock ?_
  refine cloopI (σ := Nat) (fun s => [(0, .slice p n c), (3, .int .i64 ((s : Int) + 1))]) (fun s => []) (fun s => (s = 0 ∨ s + 1 ≤ n) ∧ ∀ j, j + 1 < s + 1 → lessT (t j) (t (j + 1)) = true) (fun s => n - s) 0 ⟨.inl rfl, fun j hj => by omega⟩ ⟨rfl, rfl, trivial⟩ (List.Sublist.refl _) ?_
  rintro i j hI
  show WC _ _ _ ([]) _ _ (over j [(0, .slice p n c), (3, .int .i64 ((i : Int) + 1))])
  replace hI : (i = 0 ∨ i + 1 ≤ n) ∧ ∀ j, j + 1 < i + 1 → lessT (t j) (t (j + 1)) = true := hI
  refine cseq ?_
  refine cseq ?_
  refine creg ?_
  refine l1 (mvi rfl) ?_
  refine l1 (mvs rfl) ?_
  refine l1 (lens sl32 rfl rfl) ?_
  refine l1 (lss rfl rfl) ?_
  refine lnil ?_
  refine nthen ?_
  refine cif rfl (fun h1 => ?_) (fun h1 => ?_)
  · have hlt : i + 1 < n := by (have := dt h1; omega)
    obtain ⟨b, o, hp, hbl, hm⟩ := hl.at hlt
    refine cskip ?_
    refine nthen ?_
    refine cseq ?_
    refine cblock ?_
    refine cseq ?_
    refine cregq mo (by kernel_rfl) ?_
    refine q1 (mvs rfl) ?_
    refine q1 (mvi rfl) ?_
    refine q1 (subn rfl rfl (ri (by omega) (by omega))) ?_
    refine q1 (isp sl32 hp rfl rfl (by omega) (by omega)) ?_
    refine q1 (ldam (vs := arr .u8 16 (t (i))) Tryd.isAgg41 Tryd.sizeOf41 rfl rfl (fun w' hw => by rw [show ((i : Int) + 1 - 1).toNat = i from by omega]; exact (hm (i) (by omega)).kept hw.below hbl)) ?_
    refine q1 (mvs rfl) ?_
    refine q1 (mvi rfl) ?_
    refine q1 (isp sl32 hp rfl rfl (by omega) (by omega)) ?_
    refine q1 (ldam (vs := arr .u8 16 (t (i + 1))) Tryd.isAgg41 Tryd.sizeOf41 rfl rfl (fun w' hw => by rw [show ((i : Int) + 1).toNat = i + 1 from by omega]; exact (hm (i + 1) (by omega)).kept hw.below hbl)) ?_
    refine q1 (cl hb34 rfl (mc rfl (mc rfl mn)) (fun w hw => tcmp_calls _ _ (hr i (by omega)) (hr (i + 1) (by omega)) w)) ?_
    refine q1 (geq rfl rfl) ?_
    refine qnil ?_
    refine nthen ?_
    refine cif rfl (fun h2 => ?_) (fun h2 => ?_)
    · have hno : lessT (t i) (t (i + 1)) = false := by (have := dt h2; unfold lessT; exact decide_eq_false (by omega))
      refine cseq ?_
      refine creg ?_
      refine l1 (asgb rfl) ?_
      refine lnil ?_
      refine nthen ?_
      refine cret ?_
      refine nblkR ?_
      refine nthenR ?_
      refine nIR ?_
      refine nblkR ?_
      refine nthenR ?_
      exact fin1b rfl rfl (Eq.symm (sortedT_no hlt hno))
    · have hle : lessT (t i) (t (i + 1)) = true := by (have := df h2; unfold lessT; exact decide_eq_true (by omega))
      refine cskip ?_
      refine nblkN ?_
      refine nthen ?_
      refine creg ?_
      refine l1 (mvi rfl) ?_
      first | refine l1 (addn rfl rfl (ri (by omega) (by omega))) ?_ | refine l1 (add rfl rfl) ?_
      refine l1 (asgi rfl) ?_
      refine lnil ?_
      exact nI (i + 1) ⟨by omega, fun j hj => (Nat.lt_succ_iff_lt_or_eq.1 (Nat.lt_of_succ_lt_succ hj : j < i + 1)).elim (fun h => hI.2 j (Nat.succ_lt_succ h)) (fun h => by subst h; exact hle)⟩ (by show n - (i + 1) < n - i; omega) ⟨rfl, rfl, trivial⟩ (List.Sublist.refl _)
  · skip
    refine cexit ?_
    refine nthenE ?_
    refine nIE ?_
    refine nblkE ?_
    refine nthen ?_
    refine cseq ?_
    refine creg ?_
    refine l1 (asgb rfl) ?_
    refine lnil ?_
    refine nthen ?_
    refine cret ?_
    exact fin1b rfl rfl (Eq.symm (sortedT_iff.2 (fun j hj => hI.2 j (by have := df h1; omega))))

theorem rsorted_calls (w : World) (p : Option Addr) (n c : Nat) (t : Nat → Nat → Int) (hn : (n : Int) ≤ 9223372036854775807) (hl : Sl w p n 16 (fun i => arr .u8 16 (t i))) (hr : ∀ i, i < n → ∀ j, j < 16 → 0 ≤ t i j ∧ t i j ≤ 255) : Calls Tryd.prog 14 #[.slice p n c] w (Ret (.bool (sortedT n t)) w) := by
  refine fn_calls (n := 22) Tryd.func14 rfl rfl (lb rfl) ?_
  refine cseq ?_
  refine creg ?_
  refine l1 (asgb rfl) ?_
  refine lnil ?_
  refine nthen ?_
  refine cseq ?_
  refine cseq ?_
  refine creg ?_
  refine l1 (asgi rfl) ?_
  refine lnil ?_
  refine nthen ?_
  refine cblock ?_
  refine cloopI (σ := Nat) (fun s => [(0, .slice p n c), (3, .int .i64 ((s : Int)))]) (fun s => []) (fun s => (s = 0 ∨ s + 1 ≤ n) ∧ ∀ j, j + 1 < s + 1 → lessT (t j) (t (j + 1)) = true) (fun s => n - s) 0 ⟨.inl rfl, fun j hj => by omega⟩ ⟨rfl, rfl, trivial⟩ (List.Sublist.refl _) ?_
  rintro i j hI
  show WC _ _ _ ([]) _ _ (over j [(0, .slice p n c), (3, .int .i64 ((i : Int)))])
  replace hI : (i = 0 ∨ i + 1 ≤ n) ∧ ∀ j, j + 1 < i + 1 → lessT (t j) (t (j + 1)) = true := hI
  refine cseq ?_
  refine cseq ?_
  refine creg ?_
  refine l1 (mvi rfl) ?_
  refine l1 (addn rfl rfl (ri (by omega) (by omega))) ?_
  refine l1 (mvs rfl) ?_
  refine l1 (lens sl32 rfl rfl) ?_
  refine l1 (lss rfl rfl) ?_
  refine lnil ?_
  refine nthen ?_
  refine cif rfl (fun h1 => ?_) (fun h1 => ?_)
  · have hlt : i + 1 < n := by (have := dt h1; omega)
    obtain ⟨b, o, hp, hbl, hm⟩ := hl.at hlt
    refine cskip ?_
    refine nthen ?_
    refine cseq ?_
    refine cblock ?_
    refine cseq ?_
    refine cregq mo (by kernel_rfl) ?_
    refine q1 (mvs rfl) ?_
    refine q1 (mvi rfl) ?_
    refine q1 (isp sl32 hp rfl rfl (by omega) (by omega)) ?_
    refine q1 (ldam (vs := arr .u8 16 (t (i))) Tryd.isAgg41 Tryd.sizeOf41 rfl rfl (fun w' hw => by rw [show ((i : Int)).toNat = i from by omega]; exact (hm (i) (by omega)).kept hw.below hbl)) ?_
    refine q1 (mvs rfl) ?_
    refine q1 (mvi rfl) ?_
    refine q1 (addn rfl rfl (ri (by omega) (by omega))) ?_
    refine q1 (isp sl32 hp rfl rfl (by omega) (by omega)) ?_
    refine q1 (ldam (vs := arr .u8 16 (t (i + 1))) Tryd.isAgg41 Tryd.sizeOf41 rfl rfl (fun w' hw => by rw [show ((i : Int) + 1).toNat = i + 1 from by omega]; exact (hm (i + 1) (by omega)).kept hw.below hbl)) ?_
    refine q1 (cl hb35 rfl (mc rfl (mc rfl mn)) (fun w hw => less_calls _ _ w)) ?_
    refine q1 (nt rfl) ?_
    refine qnil ?_
    refine nthen ?_
    refine cif rfl (fun h2 => ?_) (fun h2 => ?_)
    · have hno : lessT (t i) (t (i + 1)) = false := by simpa using h2
      refine cseq ?_
      refine creg ?_
      refine l1 (asgb rfl) ?_
      refine lnil ?_
      refine nthen ?_
      refine cret ?_
      refine nblkR ?_
      refine nthenR ?_
      refine nIR ?_
      refine nblkR ?_
      refine nthenR ?_
      exact fin1b rfl rfl (Eq.symm (sortedT_no hlt hno))
    · have hle : lessT (t i) (t (i + 1)) = true := by simpa using h2
      refine cskip ?_
      refine nblkN ?_
      refine nthen ?_
      refine creg ?_
      refine l1 (mvi rfl) ?_
      first | refine l1 (addn rfl rfl (ri (by omega) (by omega))) ?_ | refine l1 (add rfl rfl) ?_
      refine l1 (asgi rfl) ?_
      refine lnil ?_
      exact nI (i + 1) ⟨by omega, fun j hj => (Nat.lt_succ_iff_lt_or_eq.1 (Nat.lt_of_succ_lt_succ hj : j < i + 1)).elim (fun h => hI.2 j (Nat.succ_lt_succ h)) (fun h => by subst h; exact hle)⟩ (by show n - (i + 1) < n - i; omega) ⟨rfl, rfl, trivial⟩ (List.Sublist.refl _)
  · skip
    refine cexit ?_
    refine nthenE ?_
    refine nIE ?_
    refine nblkE ?_
    refine nthen ?_
    refine cseq ?_
    refine creg ?_
    refine l1 (asgb rfl) ?_
    refine lnil ?_
    refine nthen ?_
    refine cret ?_
    exact fin1b rfl rfl (Eq.symm (sortedT_iff.2 (fun j hj => hI.2 j (by have := df h1; omega))))

theorem idxt_calls (w : World) (p : Option Addr) (n c : Nat) (t : Nat → Nat → Int) (hn : (n : Int) ≤ 9223372036854775807) (hl : Sl w p n 16 (fun i => arr .u8 16 (t i))) (f : Nat → Int) : Calls Tryd.prog 49 #[.slice p n c, .agg (arr .u8 16 f).toArray] w (Ret (.int .i64 (idxQ (fun i => eqA 16 f (t i)) n)) w) := by
  refine fn_calls (n := 19) Tryd.func49 rfl rfl (lb rfl) ?_
  refine cseq ?_
  refine creg ?_
  refine lbxa rfl (fun b1 => ?_)
  refine l1 (asgi rfl) ?_
  refine lnil ?_
  refine nthen ?_
  refine cseq ?_
  refine cseq ?_
  refine creg ?_
  refine l1 (mvs rfl) ?_
  refine l1 (lens sl32 rfl rfl) ?_
  refine l1 (mvi rfl) ?_
  refine lnil ?_
  refine nthen ?_
  refine cblock ?_
  refine cloopI (σ := Nat) (fun s => [(0, .slice p n c), (3, .pointer (some ⟨b1, 0, none⟩)), (7, .int .i64 (n : Int)), (8, .int .i64 (s : Int))]) (fun s => [⟨b1, arr .u8 16 f, 41⟩]) (fun s => s ≤ n ∧ ∀ j, j < s → eqA 16 f (t j) = false) (fun s => n - s) 0 ⟨Nat.zero_le _, fun j hj => by omega⟩ ⟨rfl, rfl, rfl, rfl, trivial⟩ (List.Sublist.refl _) ?_
  rintro i j hI
  show WC _ _ _ ([⟨b1, arr .u8 16 f, 41⟩]) _ _ (over j [(0, .slice p n c), (3, .pointer (some ⟨b1, 0, none⟩)), (7, .int .i64 (n : Int)), (8, .int .i64 (i : Int))])
  replace hI : i ≤ n ∧ ∀ j, j < i → eqA 16 f (t j) = false := hI
  refine cseq ?_
  refine creg ?_
  refine l1 (lss rfl rfl) ?_
  refine lnil ?_
  refine nthen ?_
  refine cseq ?_
  refine cif rfl (fun h1 => ?_) (fun h1 => ?_)
  · have hlt : i < n := by (have := dt h1; omega)
    obtain ⟨b, o, hp, hbl, hm⟩ := hl.at hlt
    refine cskip ?_
    refine nthen ?_
    refine cseq ?_
    refine cblock ?_
    refine cseq ?_
    refine creg ?_
    refine l1 (mvi rfl) ?_
    refine l1 (asgi rfl) ?_
    refine lnil ?_
    refine nthen ?_
    refine cseq ?_
    refine cregq mo (by kernel_rfl) ?_
    refine q1 (ldw 0 Tryd.isAgg41 Tryd.sizeOf41 rfl rfl rfl) ?_
    refine q1 (mvs rfl) ?_
    refine q1 (mvi rfl) ?_
    refine q1 (isp sl32 hp rfl rfl (by omega) (by omega)) ?_
    refine q1 (ldam (vs := arr .u8 16 (t i)) Tryd.isAgg41 Tryd.sizeOf41 rfl rfl (fun w' hw => (hm i hlt).kept hw.below hbl)) ?_
    refine q1 (eqla rfl rfl (fun w => eqlT _ _ w)) ?_
    refine qnil ?_
    refine nthen ?_
    refine cif rfl (fun h2 => ?_) (fun h2 => ?_)
    · skip
      refine cseq ?_
      refine creg ?_
      refine l1 (mvi rfl) ?_
      refine l1 (asgi rfl) ?_
      refine lnil ?_
      refine nthen ?_
      refine cret ?_
      refine nblkR ?_
      refine nthenR ?_
      refine nIR ?_
      refine nblkR ?_
      refine nthenR ?_
      exact fin1i rfl rfl (by rw [idxQ_yes hlt h2 hI.2])
    · skip
      refine cskip ?_
      refine nblkN ?_
      refine nthen ?_
      refine creg ?_
      first | refine l1 (addn rfl rfl (ri (by omega) (by omega))) ?_ | refine l1 (add rfl rfl) ?_
      refine l1 (mvi rfl) ?_
      refine lnil ?_
      exact nI (i + 1) ⟨by omega, fun j hj => (Nat.lt_succ_iff_lt_or_eq.1 hj).elim (fun h => hI.2 j h) (fun h => by subst h; exact h2)⟩ (by show n - (i + 1) < n - i; omega) ⟨rfl, rfl, rfl, rfl, trivial⟩ (List.Sublist.refl _)
  · skip
    refine cexit ?_
    refine nthenE ?_
    refine nIE ?_
    refine nblkE ?_
    refine nthen ?_
    refine cseq ?_
    refine creg ?_
    refine l1 (asgi rfl) ?_
    refine lnil ?_
    refine nthen ?_
    refine cret ?_
    exact fin1i rfl rfl (by rw [idxQ_no (fun j hj => hI.2 j (by have := df h1; omega))])

theorem has_calls (w : World) (p : Option Addr) (n c : Nat) (t : Nat → Nat → Int) (hn : (n : Int) ≤ 9223372036854775807) (hl : Sl w p n 16 (fun i => arr .u8 16 (t i))) (f : Nat → Int) : Calls Tryd.prog 38 #[.slice p n c, .agg (arr .u8 16 f).toArray] w (Ret (.bool (hasT f t n)) w) := by
  refine fn_calls (n := 9) Tryd.func38 rfl rfl (lb rfl) ?_
  refine cseq ?_
  refine creg ?_
  refine lbxa rfl (fun b1 => ?_)
  refine l1 (asgb rfl) ?_
  refine lnil ?_
  refine nthen ?_
  refine cseq ?_
  refine creg ?_
  refine l1 (mvs rfl) ?_
  refine l1 (ldw 0 Tryd.isAgg41 Tryd.sizeOf41 rfl rfl rfl) ?_
  refine l1 (cl hb49 rfl (mc rfl (mc rfl mn)) (fun w hw => idxt_calls w p n c t hn (Sl.keptS hl hw) f)) ?_
  refine l1 (geq rfl rfl) ?_
  refine l1 (asgb rfl) ?_
  refine lnil ?_
  refine nthen ?_
  refine cret ?_
  exact fin1b rfl rfl (idxQ_any _ _)

theorem rin_calls (w : World) (p : Option Addr) (n c : Nat) (t : Nat → Nat → Int) (hn : (n : Int) ≤ 9223372036854775807) (hl : Sl w p n 16 (fun i => arr .u8 16 (t i))) (f : Nat → Int) : Calls Tryd.prog 22 #[.slice p n c, .agg (arr .u8 16 f).toArray] w (Ret (.bool (hasT f t n)) w) := by
  refine fn_calls (n := 18) Tryd.func22 rfl rfl (lb rfl) ?_
  refine cseq ?_
  refine creg ?_
  refine lbxa rfl (fun b1 => ?_)
  refine l1 (asgb rfl) ?_
  refine lnil ?_
  refine nthen ?_
  refine cseq ?_
  refine cseq ?_
  refine creg ?_
  refine l1 (asgi rfl) ?_
  refine lnil ?_
  refine nthen ?_
  refine cblock ?_
  refine cloopI (σ := Nat) (fun s => [(0, .slice p n c), (3, .pointer (some ⟨b1, 0, none⟩)), (5, .int .i64 (s : Int))]) (fun s => [⟨b1, arr .u8 16 f, 41⟩]) (fun s => s ≤ n ∧ ∀ j, j < s → eqA 16 f (t j) = false) (fun s => n - s) 0 ⟨Nat.zero_le _, fun j hj => by omega⟩ ⟨rfl, rfl, rfl, trivial⟩ (List.Sublist.refl _) ?_
  rintro i j hI
  show WC _ _ _ ([⟨b1, arr .u8 16 f, 41⟩]) _ _ (over j [(0, .slice p n c), (3, .pointer (some ⟨b1, 0, none⟩)), (5, .int .i64 (i : Int))])
  replace hI : i ≤ n ∧ ∀ j, j < i → eqA 16 f (t j) = false := hI
  refine cseq ?_
  refine cseq ?_
  refine creg ?_
  refine l1 (mvi rfl) ?_
  refine l1 (mvs rfl) ?_
  refine l1 (lens sl32 rfl rfl) ?_
  refine l1 (lss rfl rfl) ?_
  refine lnil ?_
  refine nthen ?_
  refine cif rfl (fun h1 => ?_) (fun h1 => ?_)
  · have hlt : i < n := by (have := dt h1; omega)
    obtain ⟨b, o, hp, hbl, hm⟩ := hl.at hlt
    refine cskip ?_
    refine nthen ?_
    refine cseq ?_
    refine cblock ?_
    refine cseq ?_
    refine cregq mo (by kernel_rfl) ?_
    refine q1 (mvs rfl) ?_
    refine q1 (mvi rfl) ?_
    refine q1 (isp sl32 hp rfl rfl (by omega) (by omega)) ?_
    refine q1 (ldam (vs := arr .u8 16 (t i)) Tryd.isAgg41 Tryd.sizeOf41 rfl rfl (fun w' hw => (hm i hlt).kept hw.below hbl)) ?_
    refine q1 (ldw 0 Tryd.isAgg41 Tryd.sizeOf41 rfl rfl rfl) ?_
    refine q1 (eqla rfl rfl (fun w => eqlTc _ _ w)) ?_
    refine qnil ?_
    refine nthen ?_
    refine cif rfl (fun h2 => ?_) (fun h2 => ?_)
    · skip
      refine cseq ?_
      refine creg ?_
      refine l1 (asgb rfl) ?_
      refine lnil ?_
      refine nthen ?_
      refine cret ?_
      refine nblkR ?_
      refine nthenR ?_
      refine nIR ?_
      refine nblkR ?_
      refine nthenR ?_
      exact fin1b rfl rfl ((any_yes hlt h2).symm)
    · skip
      refine cskip ?_
      refine nblkN ?_
      refine nthen ?_
      refine creg ?_
      refine l1 (mvi rfl) ?_
      first | refine l1 (addn rfl rfl (ri (by omega) (by omega))) ?_ | refine l1 (add rfl rfl) ?_
      refine l1 (asgi rfl) ?_
      refine lnil ?_
      exact nI (i + 1) ⟨by omega, fun j hj => (Nat.lt_succ_iff_lt_or_eq.1 hj).elim (fun h => hI.2 j h) (fun h => by subst h; exact h2)⟩ (by show n - (i + 1) < n - i; omega) ⟨rfl, rfl, rfl, trivial⟩ (List.Sublist.refl _)
  · skip
    refine cexit ?_
    refine nthenE ?_
    refine nIE ?_
    refine nblkE ?_
    refine nthen ?_
    refine cseq ?_
    refine creg ?_
    refine l1 (asgb rfl) ?_
    refine lnil ?_
    refine nthen ?_
    refine cret ?_
    exact fin1b rfl rfl ((any_no (fun j hj => hI.2 j (by have := df h1; omega))).symm)

theorem meetc_calls (w : World) (b : Nat) (f : Nat → Int) (p : Option Addr) (n c : Nat) (t : Nat → Nat → Int) (hn : (n : Int) ≤ 9223372036854775807) (hl : Sl w p n 16 (fun i => arr .u8 16 (t i))) (hc : w.cell? ⟨b, 0, none⟩ = some (.slice p n c)) (hb : b < w.heap.size) : Calls Tryd.prog 37 #[.agg (arr .u8 16 f).toArray, .pointer (some ⟨b, 0, none⟩)] w (Ret (.bool (hasT f t n)) w) := by
  refine fn_calls (n := 7) Tryd.func37 rfl rfl (lb rfl) ?_
  refine cseq ?_
  refine creg ?_
  refine lbxa rfl (fun b1 => ?_)
  refine l1 (asgb rfl) ?_
  refine lnil ?_
  refine nthen ?_
  refine cseq ?_
  refine creg ?_
  refine l1 (ldm (v := .slice p n c) Tryd.isAgg32 rfl (fun w' hw => by rw [hw.below.cell (p := ⟨b, 0, none⟩) hb]; exact hc)) ?_
  refine l1 (ldw 0 Tryd.isAgg41 Tryd.sizeOf41 rfl rfl rfl) ?_
  refine l1 (cl hb38 rfl (mc rfl (mc rfl mn)) (fun w' hw => has_calls w' p n c t hn (Sl.keptS hl hw) f)) ?_
  refine l1 (asgb rfl) ?_
  refine lnil ?_
  refine nthen ?_
  refine cret ?_
  exact fin1 rfl rfl

theorem idxf_calls (w : World) (p : Option Addr) (n c : Nat) (t : Nat → Nat → Int) (hn : (n : Int) ≤ 9223372036854775807) (hl : Sl w p n 16 (fun i => arr .u8 16 (t i))) (f : FuncId) (es : List Value) (q : Nat → Bool) (hf : HasBody Tryd.prog f) (hq : ∀ i, i < n → ∀ (w' : World) (H : List Ent), Sat w H w' → Calls Tryd.prog f (.agg (arr .u8 16 (t i)).toArray :: es).toArray w' (Ret (.bool (q i)) w')) : Calls Tryd.prog 48 #[.slice p n c, .func (.func f) #[] es.toArray] w (Ret (.int .i64 (idxQ q n)) w) := by
  refine fn_calls (n := 19) Tryd.func48 rfl rfl (lb rfl) ?_
  refine cseq ?_
  refine creg ?_
  refine l1 (asgi rfl) ?_
  refine lnil ?_
  refine nthen ?_
  refine cseq ?_
  refine cseq ?_
  refine creg ?_
  refine l1 (mvs rfl) ?_
  refine l1 (lens sl32 rfl rfl) ?_
  refine l1 (mvi rfl) ?_
  refine lnil ?_
  refine nthen ?_
  refine cblock ?_
  refine cloopI (σ := Nat) (fun s => [(0, .slice p n c), (1, .func (.func f) #[] es.toArray), (7, .int .i64 (n : Int)), (8, .int .i64 (s : Int))]) (fun s => []) (fun s => s ≤ n ∧ ∀ j, j < s → q j = false) (fun s => n - s) 0 ⟨Nat.zero_le _, fun j hj => by omega⟩ ⟨rfl, rfl, rfl, rfl, trivial⟩ (List.Sublist.refl _) ?_
  rintro i j hI
  show WC _ _ _ ([]) _ _ (over j [(0, .slice p n c), (1, .func (.func f) #[] es.toArray), (7, .int .i64 (n : Int)), (8, .int .i64 (i : Int))])
  replace hI : i ≤ n ∧ ∀ j, j < i → q j = false := hI
  refine cseq ?_
  refine creg ?_
  refine l1 (lss rfl rfl) ?_
  refine lnil ?_
  refine nthen ?_
  refine cseq ?_
  refine cif rfl (fun h1 => ?_) (fun h1 => ?_)
  · have hlt : i < n := by (have := dt h1; omega)
    obtain ⟨b, o, hp, hbl, hm⟩ := hl.at hlt
    refine cskip ?_
    refine nthen ?_
    refine cseq ?_
    refine cblock ?_
    refine cseq ?_
    refine creg ?_
    refine l1 (mvi rfl) ?_
    refine l1 (asgi rfl) ?_
    refine lnil ?_
    refine nthen ?_
    refine cseq ?_
    refine creg ?_
    refine l1 (mvf rfl) ?_
    refine l1 (mvs rfl) ?_
    refine l1 (mvi rfl) ?_
    refine l1 (isp sl32 hp rfl rfl (by omega) (by omega)) ?_
    refine l1 (ldam (vs := arr .u8 16 (t i)) Tryd.isAgg41 Tryd.sizeOf41 rfl rfl (fun w' hw => (hm i hlt).kept hw.below hbl)) ?_
    refine l1 (clc hf rfl (mc rfl mn) (fun w' hw => hq i hlt w' _ hw)) ?_
    refine lnil ?_
    refine nthen ?_
    refine cif rfl (fun h2 => ?_) (fun h2 => ?_)
    · skip
      refine cseq ?_
      refine creg ?_
      refine l1 (mvi rfl) ?_
      refine l1 (asgi rfl) ?_
      refine lnil ?_
      refine nthen ?_
      refine cret ?_
      refine nblkR ?_
      refine nthenR ?_
      refine nIR ?_
      refine nblkR ?_
      refine nthenR ?_
      exact fin1i rfl rfl (by rw [idxQ_yes hlt h2 hI.2])
    · skip
      refine cskip ?_
      refine nblkN ?_
      refine nthen ?_
      refine creg ?_
      first | refine l1 (addn rfl rfl (ri (by omega) (by omega))) ?_ | refine l1 (add rfl rfl) ?_
      refine l1 (mvi rfl) ?_
      refine lnil ?_
      exact nI (i + 1) ⟨by omega, fun j hj => (Nat.lt_succ_iff_lt_or_eq.1 hj).elim (fun h => hI.2 j h) (fun h => by subst h; exact h2)⟩ (by show n - (i + 1) < n - i; omega) ⟨rfl, rfl, rfl, rfl, trivial⟩ (List.Sublist.refl _)
  · skip
    refine cexit ?_
    refine nthenE ?_
    refine nIE ?_
    refine nblkE ?_
    refine nthen ?_
    refine cseq ?_
    refine creg ?_
    refine l1 (asgi rfl) ?_
    refine lnil ?_
    refine nthen ?_
    refine cret ?_
    exact fin1i rfl rfl (by rw [idxQ_no (fun j hj => hI.2 j (by have := df h1; omega))])

theorem conf_calls (w : World) (p : Option Addr) (n c : Nat) (t : Nat → Nat → Int) (hn : (n : Int) ≤ 9223372036854775807) (hl : Sl w p n 16 (fun i => arr .u8 16 (t i))) (f : FuncId) (es : List Value) (q : Nat → Bool) (hf : HasBody Tryd.prog f) (hq : ∀ i, i < n → ∀ (w' : World) (H : List Ent), Sat w H w' → Calls Tryd.prog f (.agg (arr .u8 16 (t i)).toArray :: es).toArray w' (Ret (.bool (q i)) w')) : Calls Tryd.prog 36 #[.slice p n c, .func (.func f) #[] es.toArray] w (Ret (.bool ((List.range n).any q)) w) := by
  refine fn_calls (n := 9) Tryd.func36 rfl rfl (lb rfl) ?_
  refine cseq ?_
  refine creg ?_
  refine l1 (asgb rfl) ?_
  refine lnil ?_
  refine nthen ?_
  refine cseq ?_
  refine creg ?_
  refine l1 (mvs rfl) ?_
  refine l1 (mvf rfl) ?_
  refine l1 (cl hb48 rfl (mc rfl (mc rfl mn)) (fun w' hw => idxf_calls w' p n c t hn (Sl.keptS hl hw) f es q hf (fun i hi w2 H2 hw2 => hq i hi w2 _ (hw.join hw2)))) ?_
  refine l1 (geq rfl rfl) ?_
  refine l1 (asgb rfl) ?_
  refine lnil ?_
  refine nthen ?_
  refine cret ?_
  exact fin1b rfl rfl (idxQ_any _ _)

theorem meet_calls (w : World) (p : Option Addr) (n c : Nat) (t : Nat → Nat → Int) (hn : (n : Int) ≤ 9223372036854775807) (hl : Sl w p n 16 (fun i => arr .u8 16 (t i))) (q : Option Addr) (m d : Nat) (u : Nat → Nat → Int) (hm : (m : Int) ≤ 9223372036854775807) (hk : Sl w q m 16 (fun i => arr .u8 16 (u i))) : Calls Tryd.prog 15 #[.slice p n c, .slice q m d] w (Ret (.bool (meetT t n u m)) w) := by
  refine fn_calls (n := 8) Tryd.func15 rfl rfl (lb rfl) ?_
  refine cseq ?_
  refine creg ?_
  refine lbxs rfl (fun b1 => ?_)
  refine l1 (asgb rfl) ?_
  refine lnil ?_
  refine nthen ?_
  refine cseq ?_
  refine creg ?_
  refine l1 (mvs rfl) ?_
  refine l1 (mkf1 rfl) ?_
  refine l1 (cl (v := .bool (meetT t n u m)) hb36 rfl (mc rfl (mc rfl mn)) (fun w' hw => conf_calls w' p n c t hn (Sl.keptS hl hw) 37 [.pointer (some ⟨b1, 0, none⟩)] (fun i => hasT (t i) u m) hb37 (fun i hi w2 H2 hw2 => meetc_calls w2 b1 (t i) q m d u hm (Sl.keptS hk (hw.join hw2)) ((hw.join hw2).cell (i := 0) (e := ⟨b1, [.slice q m d], 32⟩) (o := 0) rfl rfl) ((hw.join hw2).lt (e := ⟨b1, [.slice q m d], 32⟩) (List.mem_of_getElem? (i := 0) rfl))))) ?_
  refine l1 (asgb rfl) ?_
  refine lnil ?_
  refine nthen ?_
  refine cret ?_
  exact fin1 rfl rfl

theorem rmeet_calls (w : World) (p : Option Addr) (n c : Nat) (t : Nat → Nat → Int) (hn : (n : Int) ≤ 9223372036854775807) (hl : Sl w p n 16 (fun i => arr .u8 16 (t i))) (q : Option Addr) (m d : Nat) (u : Nat → Nat → Int) (hm2 : (m : Int) ≤ 9223372036854775807) (hk : Sl w q m 16 (fun i => arr .u8 16 (u i))) : Calls Tryd.prog 16 #[.slice p n c, .slice q m d] w (Ret (.bool (meetT t n u m)) w) := by
  refine fn_calls (n := 18) Tryd.func16 rfl rfl (lb rfl) ?_
  refine cseq ?_
  refine creg ?_
  refine l1 (asgb rfl) ?_
  refine lnil ?_
  refine nthen ?_
  refine cseq ?_
  refine cseq ?_
  refine creg ?_
  refine l1 (asgi rfl) ?_
  refine lnil ?_
  refine nthen ?_
  refine cblock ?_
  refine cloopI (σ := Nat) (fun s => [(0, .slice p n c), (1, .slice q m d), (5, .int .i64 (s : Int))]) (fun s => []) (fun s => s ≤ n ∧ ∀ j, j < s → hasT (t j) u m = false) (fun s => n - s) 0 ⟨Nat.zero_le _, fun j hj => by omega⟩ ⟨rfl, rfl, rfl, trivial⟩ (List.Sublist.refl _) ?_
  rintro i j hI
  show WC _ _ _ ([]) _ _ (over j [(0, .slice p n c), (1, .slice q m d), (5, .int .i64 (i : Int))])
  replace hI : i ≤ n ∧ ∀ j, j < i → hasT (t j) u m = false := hI
  refine cseq ?_
  refine cseq ?_
  refine creg ?_
  refine l1 (mvi rfl) ?_
  refine l1 (mvs rfl) ?_
  refine l1 (lens sl32 rfl rfl) ?_
  refine l1 (lss rfl rfl) ?_
  refine lnil ?_
  refine nthen ?_
  refine cif rfl (fun h1 => ?_) (fun h1 => ?_)
  · have hlt : i < n := by (have := dt h1; omega)
    obtain ⟨b, o, hp, hbl, hm⟩ := hl.at hlt
    refine cskip ?_
    refine nthen ?_
    refine cseq ?_
    refine cblock ?_
    refine cseq ?_
    refine creg ?_
    refine l1 (mvs rfl) ?_
    refine l1 (mvs rfl) ?_
    refine l1 (mvi rfl) ?_
    refine l1 (isp sl32 hp rfl rfl (by omega) (by omega)) ?_
    refine l1 (ldam (vs := arr .u8 16 (t i)) Tryd.isAgg41 Tryd.sizeOf41 rfl rfl (fun w' hw => (hm i hlt).kept hw.below hbl)) ?_
    refine l1 (cl hb22 rfl (mc rfl (mc rfl mn)) (fun w' hw => rin_calls w' q m d u hm2 (Sl.keptS hk hw) (t i))) ?_
    refine lnil ?_
    refine nthen ?_
    refine cif rfl (fun h2 => ?_) (fun h2 => ?_)
    · skip
      refine cseq ?_
      refine creg ?_
      refine l1 (asgb rfl) ?_
      refine lnil ?_
      refine nthen ?_
      refine cret ?_
      refine nblkR ?_
      refine nthenR ?_
      refine nIR ?_
      refine nblkR ?_
      refine nthenR ?_
      exact fin1b rfl rfl ((any_yes hlt h2).symm)
    · skip
      refine cskip ?_
      refine nblkN ?_
      refine nthen ?_
      refine creg ?_
      refine l1 (mvi rfl) ?_
      first | refine l1 (addn rfl rfl (ri (by omega) (by omega))) ?_ | refine l1 (add rfl rfl) ?_
      refine l1 (asgi rfl) ?_
      refine lnil ?_
      exact nI (i + 1) ⟨by omega, fun j hj => (Nat.lt_succ_iff_lt_or_eq.1 hj).elim (fun h => hI.2 j h) (fun h => by subst h; exact h2)⟩ (by show n - (i + 1) < n - i; omega) ⟨rfl, rfl, rfl, trivial⟩ (List.Sublist.refl _)
  · skip
    refine cexit ?_
    refine nthenE ?_
    refine nIE ?_
    refine nblkE ?_
    refine nthen ?_
    refine cseq ?_
    refine creg ?_
    refine l1 (asgb rfl) ?_
    refine lnil ?_
    refine nthen ?_
    refine cret ?_
    exact fin1b rfl rfl ((any_no (fun j hj => hI.2 j (by have := df h1; omega))).symm)

end Go.Proofs.YtkafnafgmnlnpaaDoor
/- the four keys of a secret; two secrets whose keys are unlike -/
namespace Jal
open Go Go.RowKit
set_option maxRecDepth 100000
def sBody : ByteArray := ⟨#[106, 97, 108, 111, 117, 115, 105, 101, 32, 98, 111, 100, 121]⟩
def sCode : ByteArray := ⟨#[106, 97, 108, 111, 117, 115, 105, 101, 32, 99, 111, 100, 101]⟩
def sTag : ByteArray := ⟨#[106, 97, 108, 111, 117, 115, 105, 101, 32, 116, 97, 103]⟩
def sItem : ByteArray := ⟨#[106, 97, 108, 111, 117, 115, 105, 101, 32, 105, 116, 101, 109]⟩
def keyL (K : List Nat) (s : ByteArray) : List Nat := deriveL K (strL s)
theorem keyL_len (K : List Nat) (s : ByteArray) : (keyL K s).length = 32 := rfl
theorem keyL_ok (K : List Nat) (s : ByteArray) : OkB (keyL K s) := OkB.macL _ _
def keysL (K : List Nat) : List Nat := keyL K sBody ++ keyL K sCode ++ keyL K sTag ++ keyL K sItem
def K0 : List Nat := List.replicate 32 0
def K1 : List Nat := 1 :: List.replicate 31 0
theorem keys_unlike : keyL K0 sBody ≠ keyL K1 sBody := by decide +kernel
theorem keysL_len (K : List Nat) : (keysL K).length = 128 := by unfold keysL; simp only [List.length_append, keyL_len]
theorem four {A B C D : List Nat} (hA : A.length = 32) (hB : B.length = 32) (hC : C.length = 32) (hD : D.length = 32) :
    ((bN (A ++ B ++ C ++ D)).drop 0).take 32 = bN A ∧ ((bN (A ++ B ++ C ++ D)).drop 32).take 32 = bN B ∧ ((bN (A ++ B ++ C ++ D)).drop 64).take 32 = bN C ∧ ((bN (A ++ B ++ C ++ D)).drop 96).take 32 = bN D := by
  have hA' : (bN A).length = 32 := by rw [bN_len, hA]
  have hB' : (bN B).length = 32 := by rw [bN_len, hB]
  have hC' : (bN C).length = 32 := by rw [bN_len, hC]
  have hD' : (bN D).length = 32 := by rw [bN_len, hD]
  simp only [bN_append]
  generalize bN A = a at *; generalize bN B = b at *; generalize bN C = c at *; generalize bN D = d at *
  refine ⟨?_, ?_, ?_, ?_⟩
  · rw [List.drop_zero, List.append_assoc, List.append_assoc, List.take_left' hA']
  · rw [List.append_assoc, List.append_assoc, List.drop_left' hA', List.take_left' hB']
  · rw [List.append_assoc, List.drop_left' (by rw [List.length_append]; omega), List.take_left' hC']
  · rw [List.drop_left' (by simp only [List.length_append]; omega), List.take_of_length_le (by omega)]
end Jal
/- walks, printed by a program of ours -/
namespace Go.Proofs.YtkafnafgmnlnpaaDoor
open Jal Go Go.RowKit
set_option maxRecDepth 100000
theorem bk26a (f g h k : Nat → Int) : ∀ w, (Instr.build 26 (List.toArray [(0, .agg (arr .u8 32 f).toArray), (1, .agg (arr .u8 32 g).toArray), (2, .agg (arr .u8 32 h).toArray), (3, .agg (arr .u8 32 k).toArray)])).run Tryd.prog w = .ok (.agg (arr .u8 32 f ++ arr .u8 32 g ++ arr .u8 32 h ++ arr .u8 32 k).toArray) w := fun w => by kernel_rfl
theorem bk26 (A B C D : List Nat) (hA : A.length = 32) (hB : B.length = 32) (hC : C.length = 32) (hD : D.length = 32) : ∀ w, (Instr.build 26 (List.toArray [(0, .agg (bN A).toArray), (1, .agg (bN B).toArray), (2, .agg (bN C).toArray), (3, .agg (bN D).toArray)])).run Tryd.prog w = .ok (.agg (bN (A ++ B ++ C ++ D)).toArray) w := fun w => by
  rw [bN_append, bN_append, bN_append, bN_arr hA, bN_arr hB, bN_arr hC, bN_arr hD]; exact bk26a _ _ _ _ w
theorem bk23z : ∀ w, (Instr.build 23 (List.toArray [])).run Tryd.prog w = .ok (.agg (bN K0).toArray) w := fun w => by kernel_rfl
theorem bk23o : ∀ w, (Instr.build 23 (List.toArray [(0, .int .u8 1)])).run Tryd.prog w = .ok (.agg (bN K1).toArray) w := fun w => by kernel_rfl
def tA (x : Int) (i : Nat) : Int := bif Nat.beq i 0 then x else 0
theorem bk41o (x : Int) : ∀ w, (Instr.build 41 (List.toArray [(0, .int .u8 x)])).run Tryd.prog w = .ok (.agg (arr .u8 16 (tA x)).toArray) w := fun w => by kernel_rfl
theorem bs32b (f g : Nat → Int) : ∀ w : World, (Instr.buildSlice 32 2 (List.toArray [(0, .agg (arr .u8 16 f).toArray), (1, .agg (arr .u8 16 g).toArray)])).run Tryd.prog w = .ok (.slice (some ⟨w.heap.size, 0, none⟩) 2 2) (w.alloc (.cells (arr .u8 16 f ++ arr .u8 16 g).toArray 41)) := fun w => by kernel_rfl

theorem of_calls (K : List Nat) (w : World) (hKo : OkB K) (hKn : K.length = 32) (hR : Rounds w) : Calls Tryd.prog 8 #[.agg (bN K).toArray] w (Ret (.agg (bN (keysL K)).toArray) w) := by
  refine fn_calls (n := 12) Tryd.func8 rfl rfl (lb rfl) ?_
  refine cseq ?_
  refine creg ?_
  refine lbxa rfl (fun b1 => ?_)
  refine lal Tryd.zeroValue26 rfl (fun b2 => ?_)
  refine lnil ?_
  refine nthen ?_
  refine cseq ?_
  refine cregT 9 mo (by kernel_rfl) ?_
  refine q1 (ldw 0 Tryd.isAgg23 Tryd.sizeOf23 rfl rfl (by show (bN K).length = 32; rw [bN_len]; exact hKn)) ?_
  refine q1 (cl (v := .agg (bN (keyL K sBody)).toArray) hb31 rfl (mc rfl (mc rfl mn)) (fun w' hw => derive_calls K sBody w' hKo hKn (by decide) (hR.keptS hw))) ?_
  refine q1 (ldw 0 Tryd.isAgg23 Tryd.sizeOf23 rfl rfl (by show (bN K).length = 32; rw [bN_len]; exact hKn)) ?_
  refine q1 (cl (v := .agg (bN (keyL K sCode)).toArray) hb31 rfl (mc rfl (mc rfl mn)) (fun w' hw => derive_calls K sCode w' hKo hKn (by decide) (hR.keptS hw))) ?_
  refine q1 (ldw 0 Tryd.isAgg23 Tryd.sizeOf23 rfl rfl (by show (bN K).length = 32; rw [bN_len]; exact hKn)) ?_
  refine q1 (cl (v := .agg (bN (keyL K sTag)).toArray) hb31 rfl (mc rfl (mc rfl mn)) (fun w' hw => derive_calls K sTag w' hKo hKn (by decide) (hR.keptS hw))) ?_
  refine q1 (ldw 0 Tryd.isAgg23 Tryd.sizeOf23 rfl rfl (by show (bN K).length = 32; rw [bN_len]; exact hKn)) ?_
  refine q1 (cl (v := .agg (bN (keyL K sItem)).toArray) hb31 rfl (mc rfl (mc rfl mn)) (fun w' hw => derive_calls K sItem w' hKo hKn (by decide) (hR.keptS hw))) ?_
  refine q1 (bldk (zs := bN (keysL K)) rfl (bk26 _ _ _ _ rfl rfl rfl rfl)) ?_
  refine qtail ?_
  refine lstw 1 rfl rfl rfl Tryd.sizeOf26 (by rw [bN_len]; rfl) rfl (List.all_eq_true.2 (bN_one _)) ?_
  refine lnil ?_
  refine nthen ?_
  refine cret ?_
  exact finc 1 rfl Tryd.isAgg26 Tryd.sizeOf26 rfl rfl (by rw [bN_len]; rfl) rfl

theorem K0_ok : OkB K0 := fun y hy => by rw [(List.mem_replicate.1 hy).2]; decide
theorem K1_ok : OkB K1 := fun y hy => by
  rcases List.mem_cons.1 hy with rfl | hy
  · decide
  · rw [(List.mem_replicate.1 hy).2]; decide
theorem two_sorted : sortedT 2 (fun i => tA (bif Nat.beq i 0 then 1 else 2)) = true := by decide

theorem congrArg2 {α β γ : Type} (f : α → β → γ) {a a' : α} {b b' : β} (h : a = a') (h2 : b = b') : f a b = f a' b' := by subst h; subst h2; rfl
theorem mem_two {w : World} {b : Nat} {f : Nat → Nat → Int} (h : Mem w ⟨b, 0, none⟩ (arr .u8 16 (f 0) ++ arr .u8 16 (f 1))) {i : Nat} (hi : i < 2) : Mem w ⟨b, 0 + i * 16, none⟩ (arr .u8 16 (f i)) := by
  intro j v hj
  rw [Addr.add_off]
  have hl : ∀ k, (arr .u8 16 (f k)).length = 16 := fun k => rfl
  have hj16 : j < 16 := by have := (List.getElem?_eq_some_iff.1 hj).1; rwa [hl] at this
  have h2 := h (i * 16 + j) v (by
    rcases (show i = 0 ∨ i = 1 by omega) with rfl | rfl
    · rw [List.getElem?_append, if_pos (by rw [hl]; omega)]; simpa using hj
    · rw [List.getElem?_append, if_neg (by rw [hl]; omega), hl, show 1 * 16 + j - 16 = j by omega]; exact hj)
  rw [Addr.add_off] at h2
  rw [show 0 + i * 16 + j = 0 + (i * 16 + j) by omega]; exact h2
theorem two_ok : ∀ i, i < 2 → ∀ j, j < 16 → 0 ≤ tA (bif Nat.beq i 0 then 1 else 2) j ∧ tA (bif Nat.beq i 0 then 1 else 2) j ≤ 255 := by decide

theorem awake_calls (w : World) (hR : Rounds w) : Calls Tryd.prog 9 #[] w (Ret (.bool true) w) := by
  refine fn_calls (n := 14) Tryd.func9 rfl rfl (lb rfl) ?_
  refine cseq ?_
  refine creg ?_
  refine l1 (asgb rfl) ?_
  refine lnil ?_
  refine nthen ?_
  refine cseq ?_
  refine creg ?_
  refine l1 (bld0 (zs := bN K0) bk23z) ?_
  refine l1 (cl (v := .agg (bN (keysL K0)).toArray) hb8 rfl (mc rfl mn) (fun w' hw => of_calls K0 w' K0_ok rfl (hR.keptS hw))) ?_
  refine l1 (fldv (f := 0) (k := 32) (cs := bN (keysL K0)) (vs := bN (keyL K0 sBody)) Tryd.underlying26 rfl Tryd.isAgg23 Tryd.sizeOf23 rfl (four rfl rfl rfl rfl).1 (by rw [bN_len]; rfl)) ?_
  refine l1 (bldk (zs := bN K1) rfl bk23o) ?_
  refine l1 (cl (v := .agg (bN (keysL K1)).toArray) hb8 rfl (mc rfl mn) (fun w' hw => of_calls K1 w' K1_ok rfl (hR.keptS hw))) ?_
  refine l1 (fldv (f := 0) (k := 32) (cs := bN (keysL K1)) (vs := bN (keyL K1 sBody)) Tryd.underlying26 rfl Tryd.isAgg23 Tryd.sizeOf23 rfl (four rfl rfl rfl rfl).1 (by rw [bN_len]; rfl)) ?_
  refine l1 (neqa (u := .agg (bN (keyL K0 sBody)).toArray) (v := .agg (bN (keyL K1 sBody)).toArray) (b := true) rfl rfl (fun w => by have := neq23 (x := .tmp 3) (y := .tmp 6) (keyL_len K0 sBody) (keyL_len K1 sBody) w; rwa [decide_eq_false keys_unlike] at this)) ?_
  refine l1 (mvb rfl) ?_
  refine l1g rfl (gwt rfl) (fun h => bldk (zs := arr .u8 16 (tA 1)) rfl (bk41o 1)) ?_
  refine l1g rfl (gwt rfl) (fun h => bldk (zs := arr .u8 16 (tA 2)) rfl (bk41o 2)) ?_
  refine lbsg rfl (gwt rfl) (fun h => by show [(0, ev _ _ (Operand.tmp 9)), (1, ev _ _ (Operand.tmp 10))] = _; exact congrArg2 (fun v u => [(0, v), (1, u)]) (gvt h) (gvt h)) (bs32b (tA 1) (tA 2)) (fun b2 E2 hE2 => ?_)
  obtain rfl := hE2 rfl
  refine l1g rfl (gwt rfl) (fun h => cl (v := .bool true) hb13 rfl (mc (gvt h) mn) (fun w' hw => by (have hmm : Mem w' ⟨b2, 0, none⟩ (arr .u8 16 (tA 1) ++ arr .u8 16 (tA 2)) := hw.mem (i := 0) (e := ⟨b2, arr .u8 16 (tA 1) ++ arr .u8 16 (tA 2), 41⟩) rfl 0; rw [← two_sorted]; exact sorted_calls w' _ 2 2 _ (by decide) ⟨.inr ⟨b2, 0, rfl, hw.lt (e := ⟨b2, arr .u8 16 (tA 1) ++ arr .u8 16 (tA 2), 41⟩) (List.mem_of_getElem? (i := 0) rfl), fun i hi => mem_two (f := fun i => tA (bif Nat.beq i 0 then 1 else 2)) hmm hi⟩⟩ two_ok))) ?_
  refine l1 (pk_and rfl rfl rfl) ?_
  refine l1 (asgb rfl) ?_
  refine lnil ?_
  refine nthen ?_
  refine cret ?_
  exact fin1b rfl rfl rfl

theorem keysmeet_law (w : World) (p : Option Addr) (n c : Nat) (t : Nat → Nat → Int) (hn : (n : Int) ≤ 9223372036854775807) (hl : Sl w p n 16 (fun i => arr .u8 16 (t i))) (q : Option Addr) (m d : Nat) (u : Nat → Nat → Int) (hm : (m : Int) ≤ 9223372036854775807) (hk : Sl w q m 16 (fun i => arr .u8 16 (u i))) (hr : ∀ i, i < n → ∀ j, j < 16 → 0 ≤ t i j ∧ t i j ≤ 255) (hR : Rounds w) : Calls Tryd.prog 4 #[.slice p n c, .slice q m d] w (Ret (.bool true) w) := by
  refine fn_calls (n := 41) Tryd.func4 rfl rfl (lb rfl) ?_
  refine cseq ?_
  refine creg ?_
  refine l1 (asgb rfl) ?_
  refine lnil ?_
  refine nthen ?_
  refine cseq ?_
  refine creg ?_
  refine l1 (cl (v := .bool true) hb9 rfl mn (fun w' hw => awake_calls w' (hR.keptS hw))) ?_
  refine l1 (mvb rfl) ?_
  refine l1g rfl (gwt rfl) (fun h => mvs rfl) ?_
  refine l1g rfl (gwt rfl) (fun h => lens sl32 rfl (gvt h)) ?_
  refine l1g rfl (gwt rfl) (fun h => gtr (gvt h) rfl) ?_
  refine l1g rfl (gwt rfl) (fun h => mvb (gvt h)) ?_
  refine l1g rfl (ggf rfl) (fun h => mvs rfl) ?_
  refine l1g rfl (ggf rfl) (fun h => lens sl32 rfl (gvt h)) ?_
  refine l1g rfl (ggf rfl) (fun h => gtr (gvt h) rfl) ?_
  refine l1g rfl (gwt rfl) (fun h => pk_or (gvt h) rfl (gva h)) ?_
  refine l1g rfl (gwt rfl) (fun h => mvb (gvt h)) ?_
  refine l1g rfl (ggf rfl) (fun h => mvs rfl) ?_
  refine l1g rfl (ggf rfl) (fun h => cl hb13 rfl (mc (gvt h) mn) (fun w hw => sorted_calls w p n c t hn (Sl.keptS hl hw) hr)) ?_
  refine l1g rfl (ggf rfl) (fun h => mvs rfl) ?_
  refine l1g rfl (ggf rfl) (fun h => cl hb14 rfl (mc (gvt h) mn) (fun w hw => rsorted_calls w p n c t hn (Sl.keptS hl hw) hr)) ?_
  refine l1g rfl (ggf rfl) (fun h => eqlb Tryd.underlying4 (gvt h) (gvt h)) ?_
  refine l1g rfl (ggf rfl) (fun h => mvb (gvt h)) ?_
  refine l1g rfl (ggt rfl) (fun h => mvs rfl) ?_
  refine l1g rfl (ggt rfl) (fun h => mvs rfl) ?_
  refine l1g rfl (ggt rfl) (fun h => cl hb15 rfl (mc (gvt h) (mc (gvt h) mn)) (fun w hw => meet_calls w p n c t hn (Sl.keptS hl hw) q m d u hm (Sl.keptS hk hw))) ?_
  refine l1g rfl (ggt rfl) (fun h => mvs rfl) ?_
  refine l1g rfl (ggt rfl) (fun h => mvs rfl) ?_
  refine l1g rfl (ggt rfl) (fun h => cl hb16 rfl (mc (gvt h) (mc (gvt h) mn)) (fun w hw => rmeet_calls w p n c t hn (Sl.keptS hl hw) q m d u hm (Sl.keptS hk hw))) ?_
  refine l1g rfl (ggt rfl) (fun h => eqlb Tryd.underlying4 (gvt h) (gvt h)) ?_
  refine l1g rfl (ggf rfl) (fun h => pk_and (gvt h) (gva h) rfl) ?_
  refine l1g rfl (ggf rfl) (fun h => mvb (gvt h)) ?_
  refine l1g rfl (ggt rfl) (fun h => mvs rfl) ?_
  refine l1g rfl (ggt rfl) (fun h => mvs rfl) ?_
  refine l1g rfl (ggt rfl) (fun h => cl hb15 rfl (mc (gvt h) (mc (gvt h) mn)) (fun w hw => meet_calls w q m d u hm (Sl.keptS hk hw) p n c t hn (Sl.keptS hl hw))) ?_
  refine l1g rfl (ggt rfl) (fun h => mvs rfl) ?_
  refine l1g rfl (ggt rfl) (fun h => mvs rfl) ?_
  refine l1g rfl (ggt rfl) (fun h => cl hb15 rfl (mc (gvt h) (mc (gvt h) mn)) (fun w hw => meet_calls w p n c t hn (Sl.keptS hl hw) q m d u hm (Sl.keptS hk hw))) ?_
  refine l1g rfl (ggt rfl) (fun h => eqlb Tryd.underlying4 (gvt h) (gvt h)) ?_
  refine l1g rfl (ggf rfl) (fun h => pk_and (gvt h) (gva h) rfl) ?_
  refine l1g rfl (gwt rfl) (fun h => pk_or (gvt h) rfl (gva h)) ?_
  refine l1 (pk_and rfl rfl rfl) ?_
  refine l1 (asgb rfl) ?_
  refine lnil ?_
  refine nthen ?_
  refine cret ?_
  exact fin1b rfl rfl (by rw [meetT_comm u m t n]; simp)

end Go.Proofs.YtkafnafgmnlnpaaDoor
