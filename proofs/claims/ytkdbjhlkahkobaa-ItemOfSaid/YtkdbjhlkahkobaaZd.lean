/- several texts of ours, joined: Wh, Wf, Wg, Wr, Ord, Ord2 -/
import Derived.Test.YtkdbjhlkahkobaaZa
import Derived.Test.YtkdbjhlkahkobaaZc
import Derived.Test.YtkdbjhlkahkobaaZb
/- walks, printed by a program of ours -/
namespace Go.Proofs.Ytkdbjhlkahkobaa
open Jal Go.RowKit
set_option maxRecDepth 100000
theorem nanu_calls (n : Int) (w : World) : Calls Try.prog 128 #[.int .u64 n] w (Ret (.bool false) w) := by
  refine fn_calls (n := 6) Try.func128 rfl rfl (lb rfl) ?_
  refine cseq ?_
  refine creg ?_
  refine l1 (asgb rfl) ?_
  refine lnil ?_
  refine nthen ?_
  refine cseq ?_
  refine creg ?_
  refine l1 (mvi rfl) ?_
  refine l1 (mvi rfl) ?_
  refine l1 (neq rfl rfl) ?_
  refine l1 (asgb rfl) ?_
  refine lnil ?_
  refine nthen ?_
  refine cret ?_
  exact fin1b rfl rfl (by simp)

theorem nani_calls (n : Int) (w : World) : Calls Try.prog 129 #[.int .i64 n] w (Ret (.bool false) w) := by
  refine fn_calls (n := 6) Try.func129 rfl rfl (lb rfl) ?_
  refine cseq ?_
  refine creg ?_
  refine l1 (asgb rfl) ?_
  refine lnil ?_
  refine nthen ?_
  refine cseq ?_
  refine creg ?_
  refine l1 (mvi rfl) ?_
  refine l1 (mvi rfl) ?_
  refine l1 (neq rfl rfl) ?_
  refine l1 (asgb rfl) ?_
  refine lnil ?_
  refine nthen ?_
  refine cret ?_
  exact fin1b rfl rfl (by simp)

theorem cmpu_calls (a b : Int) (w : World) : Calls Try.prog 105 #[.int .u64 a, .int .u64 b] w (Ret (.int .i64 (cmpI a b)) w) := by
  refine fn_calls (n := 20) Try.func105 rfl rfl (lb rfl) ?_
  refine cseq ?_
  refine creg ?_
  refine l1 (asgi rfl) ?_
  refine lnil ?_
  refine nthen ?_
  refine cseq ?_
  refine creg ?_
  refine l1 (mvi rfl) ?_
  refine l1 (cl hb128 rfl (mc rfl mn) (fun w hw => nanu_calls _ w)) ?_
  refine l1 (asgb rfl) ?_
  refine lnil ?_
  refine nthen ?_
  refine cseq ?_
  refine creg ?_
  refine l1 (mvi rfl) ?_
  refine l1 (cl hb128 rfl (mc rfl mn) (fun w hw => nanu_calls _ w)) ?_
  refine l1 (asgb rfl) ?_
  refine lnil ?_
  refine nthen ?_
  refine cseq ?_
  refine cseq ?_
  refine creg ?_
  refine l1 (mvb rfl) ?_
  refine lnil ?_
  refine nthen ?_
  refine ciff rfl ?_
  refine cskip ?_
  refine nthen ?_
  refine cseq ?_
  refine cseq ?_
  refine creg ?_
  refine l1 (mvb rfl) ?_
  refine lnil ?_
  refine nthen ?_
  refine ciff rfl ?_
  refine cskip ?_
  refine nthen ?_
  refine cseq ?_
  refine cseq ?_
  refine creg ?_
  refine l1 (mvi rfl) ?_
  refine l1 (mvi rfl) ?_
  refine l1 (lss rfl rfl) ?_
  refine lnil ?_
  refine nthen ?_
  refine cif rfl (fun h1 => ?_) (fun h1 => ?_)
  · skip
    refine cseq ?_
    refine creg ?_
    refine l1 (asgi rfl) ?_
    refine lnil ?_
    refine nthen ?_
    refine cret ?_
    refine nthenR ?_
    exact fin1i rfl rfl (by first | rfl | (simp only [cmpI, h1, cond_true, cond_false]; done))
  · skip
    refine cskip ?_
    refine nthen ?_
    refine cseq ?_
    refine cseq ?_
    refine creg ?_
    refine l1 (mvi rfl) ?_
    refine l1 (mvi rfl) ?_
    refine l1 (gtr rfl rfl) ?_
    refine lnil ?_
    refine nthen ?_
    refine cif rfl (fun h2 => ?_) (fun h2 => ?_)
    · skip
      refine cseq ?_
      refine creg ?_
      refine l1 (asgi rfl) ?_
      refine lnil ?_
      refine nthen ?_
      refine cret ?_
      refine nthenR ?_
      exact fin1i rfl rfl (by first | rfl | (simp only [cmpI, h1, h2, cond_true, cond_false]; done))
    · skip
      refine cskip ?_
      refine nthen ?_
      refine cseq ?_
      refine creg ?_
      refine l1 (asgi rfl) ?_
      refine lnil ?_
      refine nthen ?_
      refine cret ?_
      exact fin1i rfl rfl (by first | rfl | (simp only [cmpI, h1, h2, cond_true, cond_false]; done))

theorem cmpi_calls (a b : Int) (w : World) : Calls Try.prog 106 #[.int .i64 a, .int .i64 b] w (Ret (.int .i64 (cmpI a b)) w) := by
  refine fn_calls (n := 20) Try.func106 rfl rfl (lb rfl) ?_
  refine cseq ?_
  refine creg ?_
  refine l1 (asgi rfl) ?_
  refine lnil ?_
  refine nthen ?_
  refine cseq ?_
  refine creg ?_
  refine l1 (mvi rfl) ?_
  refine l1 (cl hb129 rfl (mc rfl mn) (fun w hw => nani_calls _ w)) ?_
  refine l1 (asgb rfl) ?_
  refine lnil ?_
  refine nthen ?_
  refine cseq ?_
  refine creg ?_
  refine l1 (mvi rfl) ?_
  refine l1 (cl hb129 rfl (mc rfl mn) (fun w hw => nani_calls _ w)) ?_
  refine l1 (asgb rfl) ?_
  refine lnil ?_
  refine nthen ?_
  refine cseq ?_
  refine cseq ?_
  refine creg ?_
  refine l1 (mvb rfl) ?_
  refine lnil ?_
  refine nthen ?_
  refine ciff rfl ?_
  refine cskip ?_
  refine nthen ?_
  refine cseq ?_
  refine cseq ?_
  refine creg ?_
  refine l1 (mvb rfl) ?_
  refine lnil ?_
  refine nthen ?_
  refine ciff rfl ?_
  refine cskip ?_
  refine nthen ?_
  refine cseq ?_
  refine cseq ?_
  refine creg ?_
  refine l1 (mvi rfl) ?_
  refine l1 (mvi rfl) ?_
  refine l1 (lss rfl rfl) ?_
  refine lnil ?_
  refine nthen ?_
  refine cif rfl (fun h1 => ?_) (fun h1 => ?_)
  · skip
    refine cseq ?_
    refine creg ?_
    refine l1 (asgi rfl) ?_
    refine lnil ?_
    refine nthen ?_
    refine cret ?_
    refine nthenR ?_
    exact fin1i rfl rfl (by first | rfl | (simp only [cmpI, h1, cond_true, cond_false]; done))
  · skip
    refine cskip ?_
    refine nthen ?_
    refine cseq ?_
    refine cseq ?_
    refine creg ?_
    refine l1 (mvi rfl) ?_
    refine l1 (mvi rfl) ?_
    refine l1 (gtr rfl rfl) ?_
    refine lnil ?_
    refine nthen ?_
    refine cif rfl (fun h2 => ?_) (fun h2 => ?_)
    · skip
      refine cseq ?_
      refine creg ?_
      refine l1 (asgi rfl) ?_
      refine lnil ?_
      refine nthen ?_
      refine cret ?_
      refine nthenR ?_
      exact fin1i rfl rfl (by first | rfl | (simp only [cmpI, h1, h2, cond_true, cond_false]; done))
    · skip
      refine cskip ?_
      refine nthen ?_
      refine cseq ?_
      refine creg ?_
      refine l1 (asgi rfl) ?_
      refine lnil ?_
      refine nthen ?_
      refine cret ?_
      exact fin1i rfl rfl (by first | rfl | (simp only [cmpI, h1, h2, cond_true, cond_false]; done))

theorem or2_calls (p : Option Addr) (c : Nat) (f : Nat → Int) (w : World) (hl : Sl w p 2 1 (fun i => [.int .i64 (f i)])) : Calls Try.prog 104 #[.slice p 2 c] w (Ret (.int .i64 (or2 (f 0) (f 1))) w) := by
  refine fn_calls (n := 18) Try.func104 rfl rfl (lb rfl) ?_
  obtain ⟨b, o, rfl, hbl, hm⟩ := hl.at (i := 0) (by decide)
  refine cseq ?_
  refine creg ?_
  refine l1 (asgi rfl) ?_
  refine lnil ?_
  refine nthen ?_
  refine cseq ?_
  refine creg ?_
  refine l1 (asgi rfl) ?_
  refine lnil ?_
  refine nthen ?_
  refine cseq ?_
  refine cseq ?_
  refine creg ?_
  refine l1 (mvs rfl) ?_
  refine l1 (lens sl151 rfl rfl) ?_
  refine l1 (mvi rfl) ?_
  refine lnil ?_
  refine nthen ?_
  refine cblock ?_
  refine cloopN 3 ?_
  refine rsucc ?_
  refine cseq ?_
  refine creg ?_
  refine l1 (lss rfl rfl) ?_
  refine lnil ?_
  refine nthen ?_
  refine cseq ?_
  refine cift rfl ?_
  refine cskip ?_
  refine nthen ?_
  refine cseq ?_
  refine cblock ?_
  refine cseq ?_
  refine creg ?_
  refine l1 (is sl151 rfl rfl (by decide) (by decide)) ?_
  refine l1 (ldm Try.isAgg3 rfl (fun w' hw => ((hm _ (by decide)).kept hw.below hbl).c0)) ?_
  refine l1 (asgi rfl) ?_
  refine lnil ?_
  refine nthen ?_
  refine cseq ?_
  refine creg ?_
  refine l1 (mvi rfl) ?_
  refine l1 (mvi rfl) ?_
  refine l1 (neq rfl rfl) ?_
  refine lnil ?_
  refine nthen ?_
  refine cif rfl (fun h1 => ?_) (fun h1 => ?_)
  · replace h1 : decide (f 0 ≠ 0) = _ := h1
    refine cseq ?_
    refine creg ?_
    refine l1 (mvi rfl) ?_
    refine l1 (asgi rfl) ?_
    refine lnil ?_
    refine nthen ?_
    refine cret ?_
    refine nblkR ?_
    refine nthenR ?_
    refine nroundR ?_
    refine nblkR ?_
    refine nthenR ?_
    exact fin1i rfl rfl (by simp only [or2, h1, cond_true, cond_false] <;> rfl)
  · replace h1 : decide (f 0 ≠ 0) = _ := h1
    refine cskip ?_
    refine nblkN ?_
    refine nthen ?_
    refine creg ?_
    first | refine l1 (addn rfl rfl (ri (by omega) (by omega))) ?_ | refine l1 (add rfl rfl) ?_
    refine l1 (mvi rfl) ?_
    refine lnil ?_
    refine nround (rsucc ?_)
    refine cseq ?_
    refine creg ?_
    refine l1 (lss rfl rfl) ?_
    refine lnil ?_
    refine nthen ?_
    refine cseq ?_
    refine cift rfl ?_
    refine cskip ?_
    refine nthen ?_
    refine cseq ?_
    refine cblock ?_
    refine cseq ?_
    refine creg ?_
    refine l1 (is sl151 rfl rfl (by decide) (by decide)) ?_
    refine l1 (ldm Try.isAgg3 rfl (fun w' hw => ((hm _ (by decide)).kept hw.below hbl).c0)) ?_
    refine l1 (asgi rfl) ?_
    refine lnil ?_
    refine nthen ?_
    refine cseq ?_
    refine creg ?_
    refine l1 (mvi rfl) ?_
    refine l1 (mvi rfl) ?_
    refine l1 (neq rfl rfl) ?_
    refine lnil ?_
    refine nthen ?_
    refine cif rfl (fun h2 => ?_) (fun h2 => ?_)
    · replace h2 : decide (f 1 ≠ 0) = _ := h2
      refine cseq ?_
      refine creg ?_
      refine l1 (mvi rfl) ?_
      refine l1 (asgi rfl) ?_
      refine lnil ?_
      refine nthen ?_
      refine cret ?_
      refine nblkR ?_
      refine nthenR ?_
      refine nroundR ?_
      refine nblkR ?_
      refine nthenR ?_
      exact fin1i rfl rfl (by simp only [or2, h1, h2, cond_true, cond_false] <;> rfl)
    · replace h2 : decide (f 1 ≠ 0) = _ := h2
      refine cskip ?_
      refine nblkN ?_
      refine nthen ?_
      refine creg ?_
      first | refine l1 (addn rfl rfl (ri (by omega) (by omega))) ?_ | refine l1 (add rfl rfl) ?_
      refine l1 (mvi rfl) ?_
      refine lnil ?_
      refine nround (rsucc ?_)
      refine cseq ?_
      refine creg ?_
      refine l1 (lss rfl rfl) ?_
      refine lnil ?_
      refine nthen ?_
      refine cseq ?_
      refine ciff rfl ?_
      refine cexit ?_
      refine nthenE ?_
      refine nroundE ?_
      refine nblkE ?_
      refine nthen ?_
      refine cseq ?_
      refine creg ?_
      refine l1 (mvi rfl) ?_
      refine l1 (asgi rfl) ?_
      refine lnil ?_
      refine nthen ?_
      refine cret ?_
      exact fin1i rfl rfl (by simp only [or2, h1, h2, cond_true, cond_false] <;> rfl)

theorem or3_calls (p : Option Addr) (c : Nat) (f : Nat → Int) (w : World) (hl : Sl w p 3 1 (fun i => [.int .i64 (f i)])) : Calls Try.prog 104 #[.slice p 3 c] w (Ret (.int .i64 (or3 (f 0) (f 1) (f 2))) w) := by
  refine fn_calls (n := 18) Try.func104 rfl rfl (lb rfl) ?_
  obtain ⟨b, o, rfl, hbl, hm⟩ := hl.at (i := 0) (by decide)
  refine cseq ?_
  refine creg ?_
  refine l1 (asgi rfl) ?_
  refine lnil ?_
  refine nthen ?_
  refine cseq ?_
  refine creg ?_
  refine l1 (asgi rfl) ?_
  refine lnil ?_
  refine nthen ?_
  refine cseq ?_
  refine cseq ?_
  refine creg ?_
  refine l1 (mvs rfl) ?_
  refine l1 (lens sl151 rfl rfl) ?_
  refine l1 (mvi rfl) ?_
  refine lnil ?_
  refine nthen ?_
  refine cblock ?_
  refine cloopN 4 ?_
  refine rsucc ?_
  refine cseq ?_
  refine creg ?_
  refine l1 (lss rfl rfl) ?_
  refine lnil ?_
  refine nthen ?_
  refine cseq ?_
  refine cift rfl ?_
  refine cskip ?_
  refine nthen ?_
  refine cseq ?_
  refine cblock ?_
  refine cseq ?_
  refine creg ?_
  refine l1 (is sl151 rfl rfl (by decide) (by decide)) ?_
  refine l1 (ldm Try.isAgg3 rfl (fun w' hw => ((hm _ (by decide)).kept hw.below hbl).c0)) ?_
  refine l1 (asgi rfl) ?_
  refine lnil ?_
  refine nthen ?_
  refine cseq ?_
  refine creg ?_
  refine l1 (mvi rfl) ?_
  refine l1 (mvi rfl) ?_
  refine l1 (neq rfl rfl) ?_
  refine lnil ?_
  refine nthen ?_
  refine cif rfl (fun h1 => ?_) (fun h1 => ?_)
  · replace h1 : decide (f 0 ≠ 0) = _ := h1
    refine cseq ?_
    refine creg ?_
    refine l1 (mvi rfl) ?_
    refine l1 (asgi rfl) ?_
    refine lnil ?_
    refine nthen ?_
    refine cret ?_
    refine nblkR ?_
    refine nthenR ?_
    refine nroundR ?_
    refine nblkR ?_
    refine nthenR ?_
    exact fin1i rfl rfl (by simp only [or3, h1, cond_true, cond_false] <;> rfl)
  · replace h1 : decide (f 0 ≠ 0) = _ := h1
    refine cskip ?_
    refine nblkN ?_
    refine nthen ?_
    refine creg ?_
    first | refine l1 (addn rfl rfl (ri (by omega) (by omega))) ?_ | refine l1 (add rfl rfl) ?_
    refine l1 (mvi rfl) ?_
    refine lnil ?_
    refine nround (rsucc ?_)
    refine cseq ?_
    refine creg ?_
    refine l1 (lss rfl rfl) ?_
    refine lnil ?_
    refine nthen ?_
    refine cseq ?_
    refine cift rfl ?_
    refine cskip ?_
    refine nthen ?_
    refine cseq ?_
    refine cblock ?_
    refine cseq ?_
    refine creg ?_
    refine l1 (is sl151 rfl rfl (by decide) (by decide)) ?_
    refine l1 (ldm Try.isAgg3 rfl (fun w' hw => ((hm _ (by decide)).kept hw.below hbl).c0)) ?_
    refine l1 (asgi rfl) ?_
    refine lnil ?_
    refine nthen ?_
    refine cseq ?_
    refine creg ?_
    refine l1 (mvi rfl) ?_
    refine l1 (mvi rfl) ?_
    refine l1 (neq rfl rfl) ?_
    refine lnil ?_
    refine nthen ?_
    refine cif rfl (fun h2 => ?_) (fun h2 => ?_)
    · replace h2 : decide (f 1 ≠ 0) = _ := h2
      refine cseq ?_
      refine creg ?_
      refine l1 (mvi rfl) ?_
      refine l1 (asgi rfl) ?_
      refine lnil ?_
      refine nthen ?_
      refine cret ?_
      refine nblkR ?_
      refine nthenR ?_
      refine nroundR ?_
      refine nblkR ?_
      refine nthenR ?_
      exact fin1i rfl rfl (by simp only [or3, h1, h2, cond_true, cond_false] <;> rfl)
    · replace h2 : decide (f 1 ≠ 0) = _ := h2
      refine cskip ?_
      refine nblkN ?_
      refine nthen ?_
      refine creg ?_
      first | refine l1 (addn rfl rfl (ri (by omega) (by omega))) ?_ | refine l1 (add rfl rfl) ?_
      refine l1 (mvi rfl) ?_
      refine lnil ?_
      refine nround (rsucc ?_)
      refine cseq ?_
      refine creg ?_
      refine l1 (lss rfl rfl) ?_
      refine lnil ?_
      refine nthen ?_
      refine cseq ?_
      refine cift rfl ?_
      refine cskip ?_
      refine nthen ?_
      refine cseq ?_
      refine cblock ?_
      refine cseq ?_
      refine creg ?_
      refine l1 (is sl151 rfl rfl (by decide) (by decide)) ?_
      refine l1 (ldm Try.isAgg3 rfl (fun w' hw => ((hm _ (by decide)).kept hw.below hbl).c0)) ?_
      refine l1 (asgi rfl) ?_
      refine lnil ?_
      refine nthen ?_
      refine cseq ?_
      refine creg ?_
      refine l1 (mvi rfl) ?_
      refine l1 (mvi rfl) ?_
      refine l1 (neq rfl rfl) ?_
      refine lnil ?_
      refine nthen ?_
      refine cif rfl (fun h3 => ?_) (fun h3 => ?_)
      · replace h3 : decide (f 2 ≠ 0) = _ := h3
        refine cseq ?_
        refine creg ?_
        refine l1 (mvi rfl) ?_
        refine l1 (asgi rfl) ?_
        refine lnil ?_
        refine nthen ?_
        refine cret ?_
        refine nblkR ?_
        refine nthenR ?_
        refine nroundR ?_
        refine nblkR ?_
        refine nthenR ?_
        exact fin1i rfl rfl (by simp only [or3, h1, h2, h3, cond_true, cond_false] <;> rfl)
      · replace h3 : decide (f 2 ≠ 0) = _ := h3
        refine cskip ?_
        refine nblkN ?_
        refine nthen ?_
        refine creg ?_
        first | refine l1 (addn rfl rfl (ri (by omega) (by omega))) ?_ | refine l1 (add rfl rfl) ?_
        refine l1 (mvi rfl) ?_
        refine lnil ?_
        refine nround (rsucc ?_)
        refine cseq ?_
        refine creg ?_
        refine l1 (lss rfl rfl) ?_
        refine lnil ?_
        refine nthen ?_
        refine cseq ?_
        refine ciff rfl ?_
        refine cexit ?_
        refine nthenE ?_
        refine nroundE ?_
        refine nblkE ?_
        refine nthen ?_
        refine cseq ?_
        refine creg ?_
        refine l1 (mvi rfl) ?_
        refine l1 (asgi rfl) ?_
        refine lnil ?_
        refine nthen ?_
        refine cret ?_
        exact fin1i rfl rfl (by simp only [or3, h1, h2, h3, cond_true, cond_false] <;> rfl)

def f3 (x y z : Int) : Nat → Int
  | 0 => x
  | 1 => y
  | _ => z
theorem or2_at {w0 w : World} {H : List Ent} {i : Nat} {b : Nat} {x y : Int} (hw : Sat w0 H w) (hi : H[i]? = some ⟨b, [.int .i64 x, .int .i64 y], 3⟩) : Calls Try.prog 104 #[.slice (some ⟨b, 0, none⟩) 2 2] w (Ret (.int .i64 (or2 x y)) w) :=
  or2_calls _ _ (f3 x y 0) w (SlIn.sl (.inr ⟨_, List.mem_of_getElem? hi, rfl, fun i hi j v hv => by
    match i, j with
    | 0, 0 => exact hv
    | 1, 0 => exact hv
    | i + 2, _ => omega
    | _, j + 1 => cases hv⟩) hw)
theorem or3_at {w0 w : World} {H : List Ent} {i : Nat} {b : Nat} {x y z : Int} (hw : Sat w0 H w) (hi : H[i]? = some ⟨b, [.int .i64 x, .int .i64 y, .int .i64 z], 3⟩) : Calls Try.prog 104 #[.slice (some ⟨b, 0, none⟩) 3 3] w (Ret (.int .i64 (or3 x y z)) w) :=
  or3_calls _ _ (f3 x y z) w (SlIn.sl (.inr ⟨_, List.mem_of_getElem? hi, rfl, fun i hi j v hv => by
    match i, j with
    | 0, 0 => exact hv
    | 1, 0 => exact hv
    | 2, 0 => exact hv
    | i + 3, _ => omega
    | _, j + 1 => cases hv⟩) hw)
theorem bs151_2 (x y : Int) : ∀ w : World, (Instr.buildSlice 151 2 #[(0, .int .i64 x), (1, .int .i64 y)]).run Try.prog w = .ok (.slice (some ⟨w.heap.size, 0, none⟩) 2 2) (w.alloc (.cells [.int .i64 x, .int .i64 y].toArray 3)) := fun w => by kernel_rfl
theorem bs151_3 (x y z : Int) : ∀ w : World, (Instr.buildSlice 151 3 #[(0, .int .i64 x), (1, .int .i64 y), (2, .int .i64 z)]).run Try.prog w = .ok (.slice (some ⟨w.heap.size, 0, none⟩) 3 3) (w.alloc (.cells [.int .i64 x, .int .i64 y, .int .i64 z].toArray 3)) := fun w => by kernel_rfl
def cmpH (a b : Hd) : Int := or3 (cmpI a.time b.time) (cmpI a.writer b.writer) (cmpI a.seq b.seq)
def laterH (a b : Hd) : Bool := decide (cmpH a b > 0)
def firstH (a b : Hd) : Int := or2 (cmpI a.time b.time) (cmpI a.writer b.writer)

theorem compare_calls (a b : Hd) (w : World) : Calls Try.prog 69 #[.agg (encH a).toArray, .agg (encH b).toArray] w (Ret (.int .i64 (cmpH a b)) w) := by
  refine fn_calls (n := 22) Try.func69 rfl rfl (lb rfl) ?_
  refine cseq ?_
  refine creg ?_
  refine lbxa rfl (fun b1 => ?_)
  refine lbxa rfl (fun b2 => ?_)
  refine l1 (asgi rfl) ?_
  refine lnil ?_
  refine nthen ?_
  refine cseq ?_
  refine cregT 15 mo (by kernel_rfl) ?_
  refine q1 (fa fa37_5 rfl) ?_
  refine q1 (ldc 0 Try.isAgg22 rfl rfl rfl) ?_
  refine q1 (fa fa37_5 rfl) ?_
  refine q1 (ldc 1 Try.isAgg22 rfl rfl rfl) ?_
  refine q1 (cl hb105 rfl (mc rfl (mc rfl mn)) (fun w hw => cmpu_calls _ _ w)) ?_
  refine q1 (fa fa37_0 rfl) ?_
  refine q1 (ldc 0 Try.isAgg3 rfl rfl rfl) ?_
  refine q1 (fa fa37_0 rfl) ?_
  refine q1 (ldc 1 Try.isAgg3 rfl rfl rfl) ?_
  refine q1 (cl hb106 rfl (mc rfl (mc rfl mn)) (fun w hw => cmpi_calls _ _ w)) ?_
  refine q1 (fa fa37_1 rfl) ?_
  refine q1 (ldc 0 Try.isAgg22 rfl rfl rfl) ?_
  refine q1 (fa fa37_1 rfl) ?_
  refine q1 (ldc 1 Try.isAgg22 rfl rfl rfl) ?_
  refine q1 (cl hb105 rfl (mc rfl (mc rfl mn)) (fun w hw => cmpu_calls _ _ w)) ?_
  refine qtail ?_
  refine lbs Try.underlying151 rfl (bs151_3 _ _ _) (fun b3 => ?_)
  refine l1 (cl hb104 rfl (mc rfl mn) (fun w hw => or3_at hw (i := 2) rfl)) ?_
  refine l1 (asgi rfl) ?_
  refine lnil ?_
  refine nthen ?_
  refine cret ?_
  exact fin1 rfl rfl

theorem first_calls (a b : Hd) (w : World) : Calls Try.prog 81 #[.agg (encH a).toArray, .agg (encH b).toArray] w (Ret (.int .i64 (firstH a b)) w) := by
  refine fn_calls (n := 17) Try.func81 rfl rfl (lb rfl) ?_
  refine cseq ?_
  refine creg ?_
  refine lbxa rfl (fun b1 => ?_)
  refine lbxa rfl (fun b2 => ?_)
  refine l1 (asgi rfl) ?_
  refine lnil ?_
  refine nthen ?_
  refine cseq ?_
  refine cregT 10 mo (by kernel_rfl) ?_
  refine q1 (fa fa37_5 rfl) ?_
  refine q1 (ldc 0 Try.isAgg22 rfl rfl rfl) ?_
  refine q1 (fa fa37_5 rfl) ?_
  refine q1 (ldc 1 Try.isAgg22 rfl rfl rfl) ?_
  refine q1 (cl hb105 rfl (mc rfl (mc rfl mn)) (fun w hw => cmpu_calls _ _ w)) ?_
  refine q1 (fa fa37_0 rfl) ?_
  refine q1 (ldc 0 Try.isAgg3 rfl rfl rfl) ?_
  refine q1 (fa fa37_0 rfl) ?_
  refine q1 (ldc 1 Try.isAgg3 rfl rfl rfl) ?_
  refine q1 (cl hb106 rfl (mc rfl (mc rfl mn)) (fun w hw => cmpi_calls _ _ w)) ?_
  refine qtail ?_
  refine lbs Try.underlying151 rfl (bs151_2 _ _) (fun b3 => ?_)
  refine l1 (cl hb104 rfl (mc rfl mn) (fun w hw => or2_at hw (i := 2) rfl)) ?_
  refine l1 (asgi rfl) ?_
  refine lnil ?_
  refine nthen ?_
  refine cret ?_
  exact fin1 rfl rfl

theorem later_calls (a b : Hd) (w : World) : Calls Try.prog 28 #[.agg (encH a).toArray, .agg (encH b).toArray] w (Ret (.bool (laterH a b)) w) := by
  refine fn_calls (n := 9) Try.func28 rfl rfl (lb rfl) ?_
  refine cseq ?_
  refine creg ?_
  refine lbxa rfl (fun b1 => ?_)
  refine lbxa rfl (fun b2 => ?_)
  refine l1 (asgb rfl) ?_
  refine lnil ?_
  refine nthen ?_
  refine cseq ?_
  refine creg ?_
  refine l1 (ldw 0 Try.isAgg37 Try.sizeOf37 rfl rfl rfl) ?_
  refine l1 (ldw 1 Try.isAgg37 Try.sizeOf37 rfl rfl rfl) ?_
  refine l1 (cl hb69 rfl (mc rfl (mc rfl mn)) (fun w hw => compare_calls _ _ w)) ?_
  refine l1 (gtr rfl rfl) ?_
  refine l1 (asgb rfl) ?_
  refine lnil ?_
  refine nthen ?_
  refine cret ?_
  exact fin1 rfl rfl

def rlaterH (a b : Hd) : Bool := bif decide (a.time ≠ b.time) then decide (a.time > b.time) else bif decide (a.writer ≠ b.writer) then decide (a.writer > b.writer) else decide (a.seq > b.seq)

theorem rlater_calls (a b : Hd) (w : World) : Calls Try.prog 30 #[.agg (encH a).toArray, .agg (encH b).toArray] w (Ret (.bool (rlaterH a b)) w) := by
  refine fn_calls (n := 30) Try.func30 rfl rfl (lb rfl) ?_
  refine cseq ?_
  refine creg ?_
  refine lbxa rfl (fun b1 => ?_)
  refine lbxa rfl (fun b2 => ?_)
  refine l1 (asgb rfl) ?_
  refine lnil ?_
  refine nthen ?_
  refine cseq ?_
  refine cseq ?_
  refine creg ?_
  refine l1 (fa fa37_5 rfl) ?_
  refine l1 (ldc 0 Try.isAgg22 rfl rfl rfl) ?_
  refine l1 (fa fa37_5 rfl) ?_
  refine l1 (ldc 1 Try.isAgg22 rfl rfl rfl) ?_
  refine l1 (neq rfl rfl) ?_
  refine lnil ?_
  refine nthen ?_
  refine cif rfl (fun h1 => ?_) (fun h1 => ?_)
  · skip
    refine cseq ?_
    refine creg ?_
    refine l1 (fa fa37_5 rfl) ?_
    refine l1 (ldc 0 Try.isAgg22 rfl rfl rfl) ?_
    refine l1 (fa fa37_5 rfl) ?_
    refine l1 (ldc 1 Try.isAgg22 rfl rfl rfl) ?_
    refine l1 (gtr rfl rfl) ?_
    refine l1 (asgb rfl) ?_
    refine lnil ?_
    refine nthen ?_
    refine cret ?_
    refine nthenR ?_
    exact fin1b rfl rfl (by first | rfl | (simp only [rlaterH, h1, cond_true, cond_false]; done))
  · skip
    refine cskip ?_
    refine nthen ?_
    refine cseq ?_
    refine cseq ?_
    refine creg ?_
    refine l1 (fa fa37_0 rfl) ?_
    refine l1 (ldc 0 Try.isAgg3 rfl rfl rfl) ?_
    refine l1 (fa fa37_0 rfl) ?_
    refine l1 (ldc 1 Try.isAgg3 rfl rfl rfl) ?_
    refine l1 (neq rfl rfl) ?_
    refine lnil ?_
    refine nthen ?_
    refine cif rfl (fun h2 => ?_) (fun h2 => ?_)
    · skip
      refine cseq ?_
      refine creg ?_
      refine l1 (fa fa37_0 rfl) ?_
      refine l1 (ldc 0 Try.isAgg3 rfl rfl rfl) ?_
      refine l1 (fa fa37_0 rfl) ?_
      refine l1 (ldc 1 Try.isAgg3 rfl rfl rfl) ?_
      refine l1 (gtr rfl rfl) ?_
      refine l1 (asgb rfl) ?_
      refine lnil ?_
      refine nthen ?_
      refine cret ?_
      refine nthenR ?_
      exact fin1b rfl rfl (by first | rfl | (simp only [rlaterH, h1, h2, cond_true, cond_false]; done))
    · skip
      refine cskip ?_
      refine nthen ?_
      refine cseq ?_
      refine creg ?_
      refine l1 (fa fa37_1 rfl) ?_
      refine l1 (ldc 0 Try.isAgg22 rfl rfl rfl) ?_
      refine l1 (fa fa37_1 rfl) ?_
      refine l1 (ldc 1 Try.isAgg22 rfl rfl rfl) ?_
      refine l1 (gtr rfl rfl) ?_
      refine l1 (asgb rfl) ?_
      refine lnil ?_
      refine nthen ?_
      refine cret ?_
      exact fin1b rfl rfl (by first | rfl | (simp only [rlaterH, h1, h2, cond_true, cond_false]; done))

def hdT (t : Int) : Hd := ⟨0, 0, fun _ => 0, 0, false, t, fun _ => 0, none, 0, 0, fun _ _ => 0, fun _ => 0, fun _ => 0, 0, fun _ => 0⟩
theorem bk37 (t : Int) : ∀ w, (Instr.build 37 #[(5, .int .u64 t)]).run Try.prog w = .ok (.agg (encH (hdT t)).toArray) w := fun w => by kernel_rfl

theorem awake18_calls  (w : World) : Calls Try.prog 29 #[] w (Ret (.bool true) w) := by
  refine fn_calls (n := 4) Try.func29 rfl rfl (lb rfl) ?_
  refine cseq ?_
  refine creg ?_
  refine l1 (asgb rfl) ?_
  refine lnil ?_
  refine nthen ?_
  refine cseq ?_
  refine creg ?_
  refine l1 (bldk rfl (bk37 _)) ?_
  refine l1 (bldk rfl (bk37 _)) ?_
  refine l1 (cl hb28 rfl (mc rfl (mc rfl mn)) (fun w hw => later_calls _ _ w)) ?_
  refine l1 (asgb rfl) ?_
  refine lnil ?_
  refine nthen ?_
  refine cret ?_
  exact fin1 rfl rfl

theorem or3_pos {a b c : Int} : or3 a b c > 0 ↔ a > 0 ∨ a = 0 ∧ (b > 0 ∨ b = 0 ∧ c > 0) := by
  unfold or3
  simp only [cond_eq_ite, decide_eq_true_eq]
  by_cases ha : a = 0 <;> by_cases hb : b = 0 <;> by_cases hc : c = 0 <;> simp [ha, hb, hc] <;> omega
theorem cmpI_pos {a b : Int} : cmpI a b > 0 ↔ a > b := by
  unfold cmpI
  simp only [cond_eq_ite, decide_eq_true_eq]
  by_cases h1 : a < b <;> by_cases h2 : a > b <;> simp [h1, h2] <;> omega
theorem cmpI_zero {a b : Int} : cmpI a b = 0 ↔ a = b := by
  unfold cmpI
  simp only [cond_eq_ite, decide_eq_true_eq]
  by_cases h1 : a < b <;> by_cases h2 : a > b <;> simp [h1, h2] <;> omega
theorem later_iff {a b : Hd} : laterH a b = true ↔ a.time > b.time ∨ a.time = b.time ∧ (a.writer > b.writer ∨ a.writer = b.writer ∧ a.seq > b.seq) := by
  unfold laterH cmpH
  rw [decide_eq_true_eq, or3_pos, cmpI_pos, cmpI_zero, cmpI_pos, cmpI_zero, cmpI_pos]
theorem rlater_eq (a b : Hd) : rlaterH a b = laterH a b := by
  apply Bool.eq_iff_iff.2
  rw [later_iff]
  unfold rlaterH
  simp only [cond_eq_ite, decide_eq_true_eq]
  by_cases h1 : a.time = b.time <;> by_cases h2 : a.writer = b.writer <;> simp [h1, h2] <;> omega
theorem later_law (a b c : Hd) : (((!(laterH a b) || !(laterH b c)) || laterH a c) && !(laterH a b && laterH b a)) = true := by
  have h1 := @later_iff a b
  have h2 := @later_iff b c
  have h3 := @later_iff a c
  have h4 := @later_iff b a
  cases e1 : laterH a b <;> cases e2 : laterH b c <;> cases e3 : laterH a c <;> cases e4 : laterH b a <;> simp only [e1, e2, e3, e4] at * <;> first | rfl | (exfalso; simp at h1 h2 h3 h4; omega)

set_option maxHeartbeats 4000000 in
theorem later3_law (a b c : Hd) (w : World) : Calls Try.prog 5 #[.agg (encH a).toArray, .agg (encH b).toArray, .agg (encH c).toArray] w (Ret (.bool true) w) := by
  refine fn_calls (n := 54) Try.func5 rfl rfl (lb rfl) ?_
  refine cseq ?_
  refine creg ?_
  refine lbxa rfl (fun b1 => ?_)
  refine lbxa rfl (fun b2 => ?_)
  refine lbxa rfl (fun b3 => ?_)
  refine l1 (asgb rfl) ?_
  refine lnil ?_
  refine nthen ?_
  refine cseq ?_
  refine cregq mo (by kernel_rfl) ?_
  refine q1 (ldw 0 Try.isAgg37 Try.sizeOf37 rfl rfl rfl) ?_
  refine q1 (ldw 1 Try.isAgg37 Try.sizeOf37 rfl rfl rfl) ?_
  refine q1 (cl hb28 rfl (mc rfl (mc rfl mn)) (fun w hw => later_calls _ _ w)) ?_
  refine q1 (ldw 1 Try.isAgg37 Try.sizeOf37 rfl rfl rfl) ?_
  refine q1 (ldw 2 Try.isAgg37 Try.sizeOf37 rfl rfl rfl) ?_
  refine q1 (cl hb28 rfl (mc rfl (mc rfl mn)) (fun w hw => later_calls _ _ w)) ?_
  refine q1 (ldw 0 Try.isAgg37 Try.sizeOf37 rfl rfl rfl) ?_
  refine q1 (ldw 2 Try.isAgg37 Try.sizeOf37 rfl rfl rfl) ?_
  refine q1 (cl hb28 rfl (mc rfl (mc rfl mn)) (fun w hw => later_calls _ _ w)) ?_
  refine q1 (asgb rfl) ?_
  refine q1 (asgb rfl) ?_
  refine q1 (asgb rfl) ?_
  refine qnil ?_
  refine nthen ?_
  refine cseq ?_
  refine creg ?_
  refine l1 (cl hb29 rfl mn (fun w hw => awake18_calls w)) ?_
  refine l1 (mvb rfl) ?_
  refine l1g rfl (gwt rfl) (fun h => mvb rfl) ?_
  refine l1g rfl (gwt rfl) (fun h => ldw 0 Try.isAgg37 Try.sizeOf37 rfl rfl rfl) ?_
  refine l1g rfl (gwt rfl) (fun h => ldw 1 Try.isAgg37 Try.sizeOf37 rfl rfl rfl) ?_
  refine l1g rfl (gwt rfl) (fun h => cl hb30 rfl (mc (gvt h) (mc (gvt h) mn)) (fun w hw => rlater_calls _ _ w)) ?_
  refine l1g rfl (gwt rfl) (fun h => eqlb Try.underlying4 (gvt h) (gvt h)) ?_
  refine l1 (pk_and rfl rfl rfl) ?_
  refine l1 (mvb rfl) ?_
  refine l1g rfl (gwt rfl) (fun h => mvb rfl) ?_
  refine l1g rfl (gwt rfl) (fun h => ldw 1 Try.isAgg37 Try.sizeOf37 rfl rfl rfl) ?_
  refine l1g rfl (gwt rfl) (fun h => ldw 2 Try.isAgg37 Try.sizeOf37 rfl rfl rfl) ?_
  refine l1g rfl (gwt rfl) (fun h => cl hb30 rfl (mc (gvt h) (mc (gvt h) mn)) (fun w hw => rlater_calls _ _ w)) ?_
  refine l1g rfl (gwt rfl) (fun h => eqlb Try.underlying4 (gvt h) (gvt h)) ?_
  refine l1 (pk_and rfl rfl rfl) ?_
  refine l1 (mvb rfl) ?_
  refine l1g rfl (gwt rfl) (fun h => mvb rfl) ?_
  refine l1g rfl (gwt rfl) (fun h => nt (gvt h)) ?_
  refine l1g rfl (gwt rfl) (fun h => mvb (gvt h)) ?_
  refine l1g rfl (ggf rfl) (fun h => mvb rfl) ?_
  refine l1g rfl (ggf rfl) (fun h => nt (gvt h)) ?_
  refine l1g rfl (gwt rfl) (fun h => pk_or (gvt h) rfl (gva h)) ?_
  refine l1g rfl (gwt rfl) (fun h => mvb (gvt h)) ?_
  refine l1g rfl (ggf rfl) (fun h => mvb rfl) ?_
  refine l1g rfl (gwt rfl) (fun h => pk_or (gvt h) rfl (gva h)) ?_
  refine l1 (pk_and rfl rfl rfl) ?_
  refine l1 (mvb rfl) ?_
  refine l1g rfl (gwt rfl) (fun h => mvb rfl) ?_
  refine l1g rfl (gwt rfl) (fun h => mvb (gvt h)) ?_
  refine l1g rfl (ggt rfl) (fun h => ldw 1 Try.isAgg37 Try.sizeOf37 rfl rfl rfl) ?_
  refine l1g rfl (ggt rfl) (fun h => ldw 0 Try.isAgg37 Try.sizeOf37 rfl rfl rfl) ?_
  refine l1g rfl (ggt rfl) (fun h => cl hb28 rfl (mc (gvt h) (mc (gvt h) mn)) (fun w hw => later_calls _ _ w)) ?_
  refine l1g rfl (gwt rfl) (fun h => pk_and (gvt h) (gva h) rfl) ?_
  refine l1g rfl (gwt rfl) (fun h => nt (gvt h)) ?_
  refine l1 (pk_and rfl rfl rfl) ?_
  refine l1 (asgb rfl) ?_
  refine lnil ?_
  refine nthen ?_
  refine cret ?_
  exact fin1b rfl rfl (by have h := later_law a b c; simp only [rlater_eq] at *; revert h; cases laterH a b <;> cases laterH b c <;> cases laterH a c <;> cases laterH b a <;> simp)
end Go.Proofs.Ytkdbjhlkahkobaa
/- walks, printed by a program of ours -/
namespace Go.Proofs.Ytkdbjhlkahkobaa
open Jal Go.RowKit
set_option maxRecDepth 100000
theorem bcmp_calls (p q : Option Addr) (n m c d : Nat) (xs ys : List Int) (w : World) (hx : BySl w p n xs) (hy : BySl w q m ys) (hxr : ∀ x ∈ xs, 0 ≤ x ∧ x ≤ 255) (hyr : ∀ x ∈ ys, 0 ≤ x ∧ x ≤ 255) : Calls Try.prog 94 #[.slice p n c, .slice q m d] w (Ret (.int .i64 (lexI xs ys)) w) := by
  refine fn_calls (n := 8) Try.func94 rfl rfl (lb rfl) ?_
  refine cseq ?_
  refine creg ?_
  refine l1 (asgi rfl) ?_
  refine lnil ?_
  refine nthen ?_
  refine cseq ?_
  refine creg ?_
  refine l1 (mvs rfl) ?_
  refine l1 (mvs rfl) ?_
  refine l1 (clx ex124 rfl (mc rfl (mc rfl mn)) (fun w' hw => run_compare (hx.keptS hw) (hy.keptS hw) hxr hyr)) ?_
  refine l1 (asgi rfl) ?_
  refine lnil ?_
  refine nthen ?_
  refine cret ?_
  exact fin1 rfl rfl

theorem tcmp_calls (f g : Nat → Int) (hf : ∀ j, j < 16 → 0 ≤ f j ∧ f j ≤ 255) (hg : ∀ j, j < 16 → 0 ≤ g j ∧ g j ≤ 255)  (w : World) : Calls Try.prog 130 #[.agg (arr .u8 16 f).toArray, .agg (arr .u8 16 g).toArray] w (Ret (.int .i64 (lexI (tl 16 f) (tl 16 g))) w) := by
  refine fn_calls (n := 8) Try.func130 rfl rfl (lb rfl) ?_
  refine cseq ?_
  refine creg ?_
  refine lbxa rfl (fun b1 => ?_)
  refine lbxa rfl (fun b2 => ?_)
  refine l1 (asgi rfl) ?_
  refine lnil ?_
  refine nthen ?_
  refine cseq ?_
  refine cregq mo (by kernel_rfl) ?_
  refine q1 (slall Try.underlying34 Try.sizeOf5 rfl) ?_
  refine q1 (slall Try.underlying34 Try.sizeOf5 rfl) ?_
  refine q1 (cl hb94 rfl (mc rfl (mc rfl mn)) (fun w hw => bcmp_calls _ _ _ _ _ _ _ _ w (bySl_own hw (i := 0) rfl) (bySl_own hw (i := 1) rfl) (tl_mem hf) (tl_mem hg))) ?_
  refine q1 (asgi rfl) ?_
  refine qnil ?_
  refine nthen ?_
  refine cret ?_
  exact fin1 rfl rfl

theorem arr_at {k : IntKind} {n : Nat} (f : Nat → Int) {i : Nat} (h : i < n) : (arr k n f)[0 + ((i : Int)).toNat * 1]? = some (.int k (f i)) := by
  have := arr_get (k := k) (f := f) h; simpa using this

theorem less_calls (f g : Nat → Int) (w : World) : Calls Try.prog 98 #[.agg (arr .u8 16 f).toArray, .agg (arr .u8 16 g).toArray] w (Ret (.bool (lessT f g)) w) := by
  refine fn_calls (n := 24) Try.func98 rfl rfl (lb rfl) ?_
  refine cseq ?_
  refine creg ?_
  refine lbxa rfl (fun b1 => ?_)
  refine lbxa rfl (fun b2 => ?_)
  refine l1 (asgb rfl) ?_
  refine lnil ?_
  refine nthen ?_
  refine cseq ?_
  refine cseq ?_
  refine creg ?_
  refine l1 (asgi rfl) ?_
  refine lnil ?_
  refine nthen ?_
  refine cblock ?_
  refine cloopI (σ := Nat) (fun s => [(2, .pointer (some ⟨b1, 0, none⟩)), (3, .pointer (some ⟨b2, 0, none⟩)), (5, .int .i64 (s : Int))]) (fun s => [⟨b1, arr .u8 16 f, 34⟩, ⟨b2, arr .u8 16 g, 34⟩]) (fun s => s ≤ 16 ∧ ∀ j, j < s → f j = g j) (fun s => 16 - s) 0 ⟨Nat.zero_le _, fun j hj => by omega⟩ ⟨rfl, rfl, rfl, trivial⟩ (List.Sublist.refl _) ?_
  rintro i j hI
  show WC _ _ _ ([⟨b1, arr .u8 16 f, 34⟩, ⟨b2, arr .u8 16 g, 34⟩]) _ _ (over j [(2, .pointer (some ⟨b1, 0, none⟩)), (3, .pointer (some ⟨b2, 0, none⟩)), (5, .int .i64 (i : Int))])
  replace hI : i ≤ 16 ∧ ∀ j, j < i → f j = g j := hI
  refine cseq ?_
  refine cseq ?_
  refine creg ?_
  refine l1 (mvi rfl) ?_
  refine l1 (lss rfl rfl) ?_
  refine lnil ?_
  refine nthen ?_
  refine cif rfl (fun h1 => ?_) (fun h1 => ?_)
  · have hlt : i < 16 := by (have := dt h1; omega)
    refine cskip ?_
    refine nthen ?_
    refine cseq ?_
    refine cblock ?_
    refine cseq ?_
    refine cregq mo (by kernel_rfl) ?_
    refine q1 (mvi rfl) ?_
    refine q1 (ia ar34 rfl rfl (by omega) (by omega)) ?_
    refine q1 (ldc 0 Try.isAgg5 rfl rfl (arr_at _ hlt)) ?_
    refine q1 (mvi rfl) ?_
    refine q1 (ia ar34 rfl rfl (by omega) (by omega)) ?_
    refine q1 (ldc 1 Try.isAgg5 rfl rfl (arr_at _ hlt)) ?_
    refine q1 (neq rfl rfl) ?_
    refine qnil ?_
    refine nthen ?_
    refine cif rfl (fun h2 => ?_) (fun h2 => ?_)
    · have hne : f i ≠ g i := dt h2
      refine cseq ?_
      refine cregq mo (by kernel_rfl) ?_
      refine q1 (mvi rfl) ?_
      refine q1 (ia ar34 rfl rfl (by omega) (by omega)) ?_
      refine q1 (ldc 0 Try.isAgg5 rfl rfl (arr_at _ hlt)) ?_
      refine q1 (mvi rfl) ?_
      refine q1 (ia ar34 rfl rfl (by omega) (by omega)) ?_
      refine q1 (ldc 1 Try.isAgg5 rfl rfl (arr_at _ hlt)) ?_
      refine q1 (lss rfl rfl) ?_
      refine q1 (asgb rfl) ?_
      refine qnil ?_
      refine nthen ?_
      refine cret ?_
      refine nblkR ?_
      refine nthenR ?_
      refine nIR ?_
      refine nblkR ?_
      refine nthenR ?_
      exact fin1b rfl rfl (less_first hlt hI.2 hne)
    · have heq : f i = g i := df2 h2
      refine cskip ?_
      refine nblkN ?_
      refine nthen ?_
      refine creg ?_
      refine l1 (mvi rfl) ?_
      first | refine l1 (addn rfl rfl (ri (by omega) (by omega))) ?_ | refine l1 (add rfl rfl) ?_
      refine l1 (asgi rfl) ?_
      refine lnil ?_
      exact nI (i + 1) ⟨by omega, fun j hj => (Nat.lt_succ_iff_lt_or_eq.1 hj).elim (fun h => hI.2 j h) (fun h => by subst h; exact heq)⟩ (by show 16 - (i + 1) < 16 - i; omega) ⟨rfl, rfl, rfl, trivial⟩ (List.Sublist.refl _)
  · have hal : ∀ j, j < 16 → f j = g j := fun j hj => hI.2 j (by have := df h1; omega)
    refine cexit ?_
    refine nthenE ?_
    refine nIE ?_
    refine nblkE ?_
    refine nthen ?_
    refine cseq ?_
    refine creg ?_
    refine l1 (asgb rfl) ?_
    refine lnil ?_
    refine nthen ?_
    refine cret ?_
    exact fin1b rfl rfl (Eq.symm (less_none hal))

theorem sorted_calls (w : World) (p : Option Addr) (n c : Nat) (t : Nat → Nat → Int) (hn : (n : Int) ≤ 9223372036854775807) (hl : Sl w p n 16 (fun i => arr .u8 16 (t i))) (hr : ∀ i, i < n → ∀ j, j < 16 → 0 ≤ t i j ∧ t i j ≤ 255) : Calls Try.prog 108 #[.slice p n c] w (Ret (.bool (sortedT n t)) w) := by
  refine fn_calls (n := 21) Try.func108 rfl rfl (lb rfl) ?_
  refine cseq ?_
  refine creg ?_
  refine l1 (asgb rfl) ?_
  refine lnil ?_
  refine nthen ?_
  refine cseq ?_
  refine cseq ?_
  refine creg ?_
  refine l1 (asgi rfl) ?_
  refine lnil ?_
  refine nthen ?_
  refine cblock ?_
  refine cloopI (σ := Nat) (fun s => [(0, .slice p n c), (3, .int .i64 ((s : Int) + 1))]) (fun s => []) (fun s => (s = 0 ∨ s + 1 ≤ n) ∧ ∀ j, j + 1 < s + 1 → lessT (t j) (t (j + 1)) = true) (fun s => n - s) 0 ⟨.inl rfl, fun j hj => by omega⟩ ⟨rfl, rfl, trivial⟩ (List.Sublist.refl _) ?_
  rintro i j hI
  show WC _ _ _ ([]) _ _ (over j [(0, .slice p n c), (3, .int .i64 ((i : Int) + 1))])
  replace hI : (i = 0 ∨ i + 1 ≤ n) ∧ ∀ j, j + 1 < i + 1 → lessT (t j) (t (j + 1)) = true := hI
  refine cseq ?_
  refine cseq ?_
  refine creg ?_
  refine l1 (mvi rfl) ?_
  refine l1 (mvs rfl) ?_
  refine l1 (lens sl35 rfl rfl) ?_
  refine l1 (lss rfl rfl) ?_
  refine lnil ?_
  refine nthen ?_
  refine cif rfl (fun h1 => ?_) (fun h1 => ?_)
  · have hlt : i + 1 < n := by (have := dt h1; omega)
    obtain ⟨b, o, hp, hbl, hm⟩ := hl.at hlt
    refine cskip ?_
    refine nthen ?_
    refine cseq ?_
    refine cblock ?_
    refine cseq ?_
    refine cregq mo (by kernel_rfl) ?_
    refine q1 (mvs rfl) ?_
    refine q1 (mvi rfl) ?_
    refine q1 (subn rfl rfl (ri (by omega) (by omega))) ?_
    refine q1 (isp sl35 hp rfl rfl (by omega) (by omega)) ?_
    refine q1 (ldam (vs := arr .u8 16 (t (i))) Try.isAgg34 Try.sizeOf34 rfl rfl (fun w' hw => by rw [show ((i : Int) + 1 - 1).toNat = i from by omega]; exact (hm (i) (by omega)).kept hw.below hbl)) ?_
    refine q1 (mvs rfl) ?_
    refine q1 (mvi rfl) ?_
    refine q1 (isp sl35 hp rfl rfl (by omega) (by omega)) ?_
    refine q1 (ldam (vs := arr .u8 16 (t (i + 1))) Try.isAgg34 Try.sizeOf34 rfl rfl (fun w' hw => by rw [show ((i : Int) + 1).toNat = i + 1 from by omega]; exact (hm (i + 1) (by omega)).kept hw.below hbl)) ?_
    refine q1 (cl hb130 rfl (mc rfl (mc rfl mn)) (fun w hw => tcmp_calls _ _ (hr i (by omega)) (hr (i + 1) (by omega)) w)) ?_
    refine q1 (geq rfl rfl) ?_
    refine qnil ?_
    refine nthen ?_
    refine cif rfl (fun h2 => ?_) (fun h2 => ?_)
    · have hno : lessT (t i) (t (i + 1)) = false := by (have := dt h2; unfold lessT; exact decide_eq_false (by omega))
      refine cseq ?_
      refine creg ?_
      refine l1 (asgb rfl) ?_
      refine lnil ?_
      refine nthen ?_
      refine cret ?_
      refine nblkR ?_
      refine nthenR ?_
      refine nIR ?_
      refine nblkR ?_
      refine nthenR ?_
      exact fin1b rfl rfl (Eq.symm (sortedT_no hlt hno))
    · have hle : lessT (t i) (t (i + 1)) = true := by (have := df h2; unfold lessT; exact decide_eq_true (by omega))
      refine cskip ?_
      refine nblkN ?_
      refine nthen ?_
      refine creg ?_
      refine l1 (mvi rfl) ?_
      first | refine l1 (addn rfl rfl (ri (by omega) (by omega))) ?_ | refine l1 (add rfl rfl) ?_
      refine l1 (asgi rfl) ?_
      refine lnil ?_
      exact nI (i + 1) ⟨by omega, fun j hj => (Nat.lt_succ_iff_lt_or_eq.1 (Nat.lt_of_succ_lt_succ hj : j < i + 1)).elim (fun h => hI.2 j (Nat.succ_lt_succ h)) (fun h => by subst h; exact hle)⟩ (by show n - (i + 1) < n - i; omega) ⟨rfl, rfl, trivial⟩ (List.Sublist.refl _)
  · skip
    refine cexit ?_
    refine nthenE ?_
    refine nIE ?_
    refine nblkE ?_
    refine nthen ?_
    refine cseq ?_
    refine creg ?_
    refine l1 (asgb rfl) ?_
    refine lnil ?_
    refine nthen ?_
    refine cret ?_
    exact fin1b rfl rfl (Eq.symm (sortedT_iff.2 (fun j hj => hI.2 j (by have := df h1; omega))))

theorem rsorted_calls (w : World) (p : Option Addr) (n c : Nat) (t : Nat → Nat → Int) (hn : (n : Int) ≤ 9223372036854775807) (hl : Sl w p n 16 (fun i => arr .u8 16 (t i))) (hr : ∀ i, i < n → ∀ j, j < 16 → 0 ≤ t i j ∧ t i j ≤ 255) : Calls Try.prog 110 #[.slice p n c] w (Ret (.bool (sortedT n t)) w) := by
  refine fn_calls (n := 22) Try.func110 rfl rfl (lb rfl) ?_
  refine cseq ?_
  refine creg ?_
  refine l1 (asgb rfl) ?_
  refine lnil ?_
  refine nthen ?_
  refine cseq ?_
  refine cseq ?_
  refine creg ?_
  refine l1 (asgi rfl) ?_
  refine lnil ?_
  refine nthen ?_
  refine cblock ?_
  refine cloopI (σ := Nat) (fun s => [(0, .slice p n c), (3, .int .i64 ((s : Int)))]) (fun s => []) (fun s => (s = 0 ∨ s + 1 ≤ n) ∧ ∀ j, j + 1 < s + 1 → lessT (t j) (t (j + 1)) = true) (fun s => n - s) 0 ⟨.inl rfl, fun j hj => by omega⟩ ⟨rfl, rfl, trivial⟩ (List.Sublist.refl _) ?_
  rintro i j hI
  show WC _ _ _ ([]) _ _ (over j [(0, .slice p n c), (3, .int .i64 ((i : Int)))])
  replace hI : (i = 0 ∨ i + 1 ≤ n) ∧ ∀ j, j + 1 < i + 1 → lessT (t j) (t (j + 1)) = true := hI
  refine cseq ?_
  refine cseq ?_
  refine creg ?_
  refine l1 (mvi rfl) ?_
  refine l1 (addn rfl rfl (ri (by omega) (by omega))) ?_
  refine l1 (mvs rfl) ?_
  refine l1 (lens sl35 rfl rfl) ?_
  refine l1 (lss rfl rfl) ?_
  refine lnil ?_
  refine nthen ?_
  refine cif rfl (fun h1 => ?_) (fun h1 => ?_)
  · have hlt : i + 1 < n := by (have := dt h1; omega)
    obtain ⟨b, o, hp, hbl, hm⟩ := hl.at hlt
    refine cskip ?_
    refine nthen ?_
    refine cseq ?_
    refine cblock ?_
    refine cseq ?_
    refine cregq mo (by kernel_rfl) ?_
    refine q1 (mvs rfl) ?_
    refine q1 (mvi rfl) ?_
    refine q1 (isp sl35 hp rfl rfl (by omega) (by omega)) ?_
    refine q1 (ldam (vs := arr .u8 16 (t (i))) Try.isAgg34 Try.sizeOf34 rfl rfl (fun w' hw => by rw [show ((i : Int)).toNat = i from by omega]; exact (hm (i) (by omega)).kept hw.below hbl)) ?_
    refine q1 (mvs rfl) ?_
    refine q1 (mvi rfl) ?_
    refine q1 (addn rfl rfl (ri (by omega) (by omega))) ?_
    refine q1 (isp sl35 hp rfl rfl (by omega) (by omega)) ?_
    refine q1 (ldam (vs := arr .u8 16 (t (i + 1))) Try.isAgg34 Try.sizeOf34 rfl rfl (fun w' hw => by rw [show ((i : Int) + 1).toNat = i + 1 from by omega]; exact (hm (i + 1) (by omega)).kept hw.below hbl)) ?_
    refine q1 (cl hb98 rfl (mc rfl (mc rfl mn)) (fun w hw => less_calls _ _ w)) ?_
    refine q1 (nt rfl) ?_
    refine qnil ?_
    refine nthen ?_
    refine cif rfl (fun h2 => ?_) (fun h2 => ?_)
    · have hno : lessT (t i) (t (i + 1)) = false := by simpa using h2
      refine cseq ?_
      refine creg ?_
      refine l1 (asgb rfl) ?_
      refine lnil ?_
      refine nthen ?_
      refine cret ?_
      refine nblkR ?_
      refine nthenR ?_
      refine nIR ?_
      refine nblkR ?_
      refine nthenR ?_
      exact fin1b rfl rfl (Eq.symm (sortedT_no hlt hno))
    · have hle : lessT (t i) (t (i + 1)) = true := by simpa using h2
      refine cskip ?_
      refine nblkN ?_
      refine nthen ?_
      refine creg ?_
      refine l1 (mvi rfl) ?_
      first | refine l1 (addn rfl rfl (ri (by omega) (by omega))) ?_ | refine l1 (add rfl rfl) ?_
      refine l1 (asgi rfl) ?_
      refine lnil ?_
      exact nI (i + 1) ⟨by omega, fun j hj => (Nat.lt_succ_iff_lt_or_eq.1 (Nat.lt_of_succ_lt_succ hj : j < i + 1)).elim (fun h => hI.2 j (Nat.succ_lt_succ h)) (fun h => by subst h; exact hle)⟩ (by show n - (i + 1) < n - i; omega) ⟨rfl, rfl, trivial⟩ (List.Sublist.refl _)
  · skip
    refine cexit ?_
    refine nthenE ?_
    refine nIE ?_
    refine nblkE ?_
    refine nthen ?_
    refine cseq ?_
    refine creg ?_
    refine l1 (asgb rfl) ?_
    refine lnil ?_
    refine nthen ?_
    refine cret ?_
    exact fin1b rfl rfl (Eq.symm (sortedT_iff.2 (fun j hj => hI.2 j (by have := df h1; omega))))

theorem arr_eq {P : Program} (d : Nat) {t e : TypeId} {n : Nat} {k : IntKind} (hu : P.underlying t = some (.array n e)) (he : P.underlying e = some (.int k)) (hs : P.cellsOf e = 1) (a b : Nat → Int) (w : World) :
    (Op.equalIn (d + 2) t (.agg (arr k n a).toArray) (.agg (arr k n b).toArray)).run P w = .ok ((List.range n).all fun i => decide (a i = b i)) w := by
  obtain ⟨i, hi⟩ := info_of_underlying he
  rw [run_equalIn_array w (d + 1) _ _ hu hi]
  exact eq_items2 d he hs _ _ a b w _ (fun i hi => ⟨by have := arr_get (k := k) (f := a) (List.mem_range.1 hi); simpa using this, by have := arr_get (k := k) (f := b) (List.mem_range.1 hi); simpa using this⟩)
def eqA (n : Nat) (a b : Nat → Int) : Bool := (List.range n).all fun i => decide (a i = b i)
theorem eqA_iff {n : Nat} {a b : Nat → Int} : eqA n a b = true ↔ ∀ i, i < n → a i = b i := by
  simp [eqA, List.all_eq_true, List.mem_range]
theorem eqlArr {t e : TypeId} {n : Nat} {k : IntKind} {x y : Operand} (hu : Try.prog.underlying t = some (.array n e)) (he : Try.prog.underlying e = some (.int k)) (hs : Try.prog.cellsOf e = 1) (hg : Try.prog.eqGuardType Try.prog.depth t = false) (a b : Nat → Int) (w : World) :
    (do eqGuard .eql t x y (.agg (arr k n a).toArray) (.agg (arr k n b).toArray); binOp .eql t (.agg (arr k n a).toArray) (.agg (arr k n b).toArray)).run Try.prog w = .ok (.bool (eqA n a b)) w := by
  have he : (Op.equal t (.agg (arr k n a).toArray) (.agg (arr k n b).toArray)).run Try.prog w = .ok (eqA n a b) w := arr_eq 9998 hu he hs a b w
  simp [eqGuard, binOp, Sem.run_bind, run_program, hg, he]
theorem eql32 {x y : Operand} (a b : Nat → Int) (w : World) : (do eqGuard .eql 32 x y (.agg (arr .u8 32 a).toArray) (.agg (arr .u8 32 b).toArray); binOp .eql 32 (.agg (arr .u8 32 a).toArray) (.agg (arr .u8 32 b).toArray)).run Try.prog w = .ok (.bool (eqA 32 a b)) w := eqlArr Try.underlying32 Try.underlying5 (by kernel_rfl) (by kernel_rfl) a b w
theorem eql34 {x y : Operand} (a b : Nat → Int) (w : World) : (do eqGuard .eql 34 x y (.agg (arr .u8 16 a).toArray) (.agg (arr .u8 16 b).toArray); binOp .eql 34 (.agg (arr .u8 16 a).toArray) (.agg (arr .u8 16 b).toArray)).run Try.prog w = .ok (.bool (eqA 16 a b)) w := eqlArr Try.underlying34 Try.underlying5 (by kernel_rfl) (by kernel_rfl) a b w
theorem bk32z : ∀ w, (Instr.build 32 #[]).run Try.prog w = .ok (.agg (arr .u8 32 (fun _ => 0)).toArray) w := fun w => by kernel_rfl
theorem bk34z : ∀ w, (Instr.build 34 #[]).run Try.prog w = .ok (.agg (arr .u8 16 (fun _ => 0)).toArray) w := fun w => by kernel_rfl

theorem shl3_64_0 (x y : Operand) : ∀ w, (do eqGuard .shl 3 x y (.int .i64 64) (.int .i64 0); binOp .shl 3 (.int .i64 64) (.int .i64 0)).run Try.prog w = .ok (.int .i64 64) w := fun w => by kernel_rfl

theorem shl3_64_1 (x y : Operand) : ∀ w, (do eqGuard .shl 3 x y (.int .i64 64) (.int .i64 1); binOp .shl 3 (.int .i64 64) (.int .i64 1)).run Try.prog w = .ok (.int .i64 128) w := fun w => by kernel_rfl

theorem shl3_64_2 (x y : Operand) : ∀ w, (do eqGuard .shl 3 x y (.int .i64 64) (.int .i64 2); binOp .shl 3 (.int .i64 64) (.int .i64 2)).run Try.prog w = .ok (.int .i64 256) w := fun w => by kernel_rfl

theorem shl3_64_3 (x y : Operand) : ∀ w, (do eqGuard .shl 3 x y (.int .i64 64) (.int .i64 3); binOp .shl 3 (.int .i64 64) (.int .i64 3)).run Try.prog w = .ok (.int .i64 512) w := fun w => by kernel_rfl

theorem shl3_64_4 (x y : Operand) : ∀ w, (do eqGuard .shl 3 x y (.int .i64 64) (.int .i64 4); binOp .shl 3 (.int .i64 64) (.int .i64 4)).run Try.prog w = .ok (.int .i64 1024) w := fun w => by kernel_rfl

theorem shl3_64_5 (x y : Operand) : ∀ w, (do eqGuard .shl 3 x y (.int .i64 64) (.int .i64 5); binOp .shl 3 (.int .i64 64) (.int .i64 5)).run Try.prog w = .ok (.int .i64 2048) w := fun w => by kernel_rfl

def bucketB (n : Int) : Int := bif decide (n < 0) then 0 else bif decide (n < 64) then 64 else bif decide (n < 128) then 128 else bif decide (n < 256) then 256 else bif decide (n < 512) then 512 else bif decide (n < 1024) then 1024 else bif decide (n < 2048) then 2048 else 0
def bucketE (n : Int) : Int := bif decide (n < 0) then 1 else bif decide (n < 64) then 0 else bif decide (n < 128) then 0 else bif decide (n < 256) then 0 else bif decide (n < 512) then 0 else bif decide (n < 1024) then 0 else bif decide (n < 2048) then 0 else 3

theorem bucket_calls (n : Int) (w : World) : Calls Try.prog 131 #[.int .i64 n] w (Ret (.tuple #[.int .i64 (bucketB n), .int .i64 (bucketE n)]) w) := by
  refine fn_calls (n := 17) Try.func131 rfl rfl (lb rfl) ?_
  refine cseq ?_
  refine creg ?_
  refine l1 (asgi rfl) ?_
  refine l1 (asgi rfl) ?_
  refine lnil ?_
  refine nthen ?_
  refine cseq ?_
  refine cseq ?_
  refine creg ?_
  refine l1 (mvi rfl) ?_
  refine l1 (lss rfl rfl) ?_
  refine lnil ?_
  refine nthen ?_
  refine cif rfl (fun h1 => ?_) (fun h1 => ?_)
  · skip
    refine cseq ?_
    refine creg ?_
    refine l1 (asgi rfl) ?_
    refine l1 (asgi rfl) ?_
    refine lnil ?_
    refine nthen ?_
    refine cret ?_
    refine nthenR ?_
    exact fin (rv2 rfl (rvt (by simp only [bucketB, h1, cond_true, cond_false] <;> rfl)) (rvt (by simp only [bucketE, h1, cond_true, cond_false] <;> rfl)))
  · skip
    refine cskip ?_
    refine nthen ?_
    refine cseq ?_
    refine cseq ?_
    refine creg ?_
    refine l1 (mvi rfl) ?_
    refine lnil ?_
    refine nthen ?_
    refine cblock ?_
    refine cloopN 7 ?_
    refine rsucc ?_
    refine cseq ?_
    refine creg ?_
    refine l1 (lss rfl rfl) ?_
    refine lnil ?_
    refine nthen ?_
    refine cseq ?_
    refine cift rfl ?_
    refine cskip ?_
    refine nthen ?_
    refine cseq ?_
    refine cblock ?_
    refine cseq ?_
    refine creg ?_
    refine l1 (mvi rfl) ?_
    refine l1 (asgi rfl) ?_
    refine lnil ?_
    refine nthen ?_
    refine cseq ?_
    refine creg ?_
    refine l1 (mvi rfl) ?_
    refine l1 (mvi rfl) ?_
    refine l1 (binc rfl rfl (shl3_64_0 _ _)) ?_
    refine l1 (lss rfl rfl) ?_
    refine lnil ?_
    refine nthen ?_
    refine cif rfl (fun h2 => ?_) (fun h2 => ?_)
    · skip
      refine cseq ?_
      refine creg ?_
      refine l1 (mvi rfl) ?_
      refine l1 (binc rfl rfl (shl3_64_0 _ _)) ?_
      refine l1 (asgi rfl) ?_
      refine l1 (asgi rfl) ?_
      refine lnil ?_
      refine nthen ?_
      refine cret ?_
      refine nblkR ?_
      refine nthenR ?_
      refine nroundR ?_
      refine nblkR ?_
      refine nthenR ?_
      exact fin (rv2 rfl (rvt (by simp only [bucketB, h1, h2, cond_true, cond_false] <;> rfl)) (rvt (by simp only [bucketE, h1, h2, cond_true, cond_false] <;> rfl)))
    · skip
      refine cskip ?_
      refine nblkN ?_
      refine nthen ?_
      refine creg ?_
      first | refine l1 (addn rfl rfl (ri (by omega) (by omega))) ?_ | refine l1 (add rfl rfl) ?_
      refine l1 (mvi rfl) ?_
      refine lnil ?_
      refine nround (rsucc ?_)
      refine cseq ?_
      refine creg ?_
      refine l1 (lss rfl rfl) ?_
      refine lnil ?_
      refine nthen ?_
      refine cseq ?_
      refine cift rfl ?_
      refine cskip ?_
      refine nthen ?_
      refine cseq ?_
      refine cblock ?_
      refine cseq ?_
      refine creg ?_
      refine l1 (mvi rfl) ?_
      refine l1 (asgi rfl) ?_
      refine lnil ?_
      refine nthen ?_
      refine cseq ?_
      refine creg ?_
      refine l1 (mvi rfl) ?_
      refine l1 (mvi rfl) ?_
      refine l1 (binc rfl rfl (shl3_64_1 _ _)) ?_
      refine l1 (lss rfl rfl) ?_
      refine lnil ?_
      refine nthen ?_
      refine cif rfl (fun h3 => ?_) (fun h3 => ?_)
      · skip
        refine cseq ?_
        refine creg ?_
        refine l1 (mvi rfl) ?_
        refine l1 (binc rfl rfl (shl3_64_1 _ _)) ?_
        refine l1 (asgi rfl) ?_
        refine l1 (asgi rfl) ?_
        refine lnil ?_
        refine nthen ?_
        refine cret ?_
        refine nblkR ?_
        refine nthenR ?_
        refine nroundR ?_
        refine nblkR ?_
        refine nthenR ?_
        exact fin (rv2 rfl (rvt (by simp only [bucketB, h1, h2, h3, cond_true, cond_false] <;> rfl)) (rvt (by simp only [bucketE, h1, h2, h3, cond_true, cond_false] <;> rfl)))
      · skip
        refine cskip ?_
        refine nblkN ?_
        refine nthen ?_
        refine creg ?_
        first | refine l1 (addn rfl rfl (ri (by omega) (by omega))) ?_ | refine l1 (add rfl rfl) ?_
        refine l1 (mvi rfl) ?_
        refine lnil ?_
        refine nround (rsucc ?_)
        refine cseq ?_
        refine creg ?_
        refine l1 (lss rfl rfl) ?_
        refine lnil ?_
        refine nthen ?_
        refine cseq ?_
        refine cift rfl ?_
        refine cskip ?_
        refine nthen ?_
        refine cseq ?_
        refine cblock ?_
        refine cseq ?_
        refine creg ?_
        refine l1 (mvi rfl) ?_
        refine l1 (asgi rfl) ?_
        refine lnil ?_
        refine nthen ?_
        refine cseq ?_
        refine creg ?_
        refine l1 (mvi rfl) ?_
        refine l1 (mvi rfl) ?_
        refine l1 (binc rfl rfl (shl3_64_2 _ _)) ?_
        refine l1 (lss rfl rfl) ?_
        refine lnil ?_
        refine nthen ?_
        refine cif rfl (fun h4 => ?_) (fun h4 => ?_)
        · skip
          refine cseq ?_
          refine creg ?_
          refine l1 (mvi rfl) ?_
          refine l1 (binc rfl rfl (shl3_64_2 _ _)) ?_
          refine l1 (asgi rfl) ?_
          refine l1 (asgi rfl) ?_
          refine lnil ?_
          refine nthen ?_
          refine cret ?_
          refine nblkR ?_
          refine nthenR ?_
          refine nroundR ?_
          refine nblkR ?_
          refine nthenR ?_
          exact fin (rv2 rfl (rvt (by simp only [bucketB, h1, h2, h3, h4, cond_true, cond_false] <;> rfl)) (rvt (by simp only [bucketE, h1, h2, h3, h4, cond_true, cond_false] <;> rfl)))
        · skip
          refine cskip ?_
          refine nblkN ?_
          refine nthen ?_
          refine creg ?_
          first | refine l1 (addn rfl rfl (ri (by omega) (by omega))) ?_ | refine l1 (add rfl rfl) ?_
          refine l1 (mvi rfl) ?_
          refine lnil ?_
          refine nround (rsucc ?_)
          refine cseq ?_
          refine creg ?_
          refine l1 (lss rfl rfl) ?_
          refine lnil ?_
          refine nthen ?_
          refine cseq ?_
          refine cift rfl ?_
          refine cskip ?_
          refine nthen ?_
          refine cseq ?_
          refine cblock ?_
          refine cseq ?_
          refine creg ?_
          refine l1 (mvi rfl) ?_
          refine l1 (asgi rfl) ?_
          refine lnil ?_
          refine nthen ?_
          refine cseq ?_
          refine creg ?_
          refine l1 (mvi rfl) ?_
          refine l1 (mvi rfl) ?_
          refine l1 (binc rfl rfl (shl3_64_3 _ _)) ?_
          refine l1 (lss rfl rfl) ?_
          refine lnil ?_
          refine nthen ?_
          refine cif rfl (fun h5 => ?_) (fun h5 => ?_)
          · skip
            refine cseq ?_
            refine creg ?_
            refine l1 (mvi rfl) ?_
            refine l1 (binc rfl rfl (shl3_64_3 _ _)) ?_
            refine l1 (asgi rfl) ?_
            refine l1 (asgi rfl) ?_
            refine lnil ?_
            refine nthen ?_
            refine cret ?_
            refine nblkR ?_
            refine nthenR ?_
            refine nroundR ?_
            refine nblkR ?_
            refine nthenR ?_
            exact fin (rv2 rfl (rvt (by simp only [bucketB, h1, h2, h3, h4, h5, cond_true, cond_false] <;> rfl)) (rvt (by simp only [bucketE, h1, h2, h3, h4, h5, cond_true, cond_false] <;> rfl)))
          · skip
            refine cskip ?_
            refine nblkN ?_
            refine nthen ?_
            refine creg ?_
            first | refine l1 (addn rfl rfl (ri (by omega) (by omega))) ?_ | refine l1 (add rfl rfl) ?_
            refine l1 (mvi rfl) ?_
            refine lnil ?_
            refine nround (rsucc ?_)
            refine cseq ?_
            refine creg ?_
            refine l1 (lss rfl rfl) ?_
            refine lnil ?_
            refine nthen ?_
            refine cseq ?_
            refine cift rfl ?_
            refine cskip ?_
            refine nthen ?_
            refine cseq ?_
            refine cblock ?_
            refine cseq ?_
            refine creg ?_
            refine l1 (mvi rfl) ?_
            refine l1 (asgi rfl) ?_
            refine lnil ?_
            refine nthen ?_
            refine cseq ?_
            refine creg ?_
            refine l1 (mvi rfl) ?_
            refine l1 (mvi rfl) ?_
            refine l1 (binc rfl rfl (shl3_64_4 _ _)) ?_
            refine l1 (lss rfl rfl) ?_
            refine lnil ?_
            refine nthen ?_
            refine cif rfl (fun h6 => ?_) (fun h6 => ?_)
            · skip
              refine cseq ?_
              refine creg ?_
              refine l1 (mvi rfl) ?_
              refine l1 (binc rfl rfl (shl3_64_4 _ _)) ?_
              refine l1 (asgi rfl) ?_
              refine l1 (asgi rfl) ?_
              refine lnil ?_
              refine nthen ?_
              refine cret ?_
              refine nblkR ?_
              refine nthenR ?_
              refine nroundR ?_
              refine nblkR ?_
              refine nthenR ?_
              exact fin (rv2 rfl (rvt (by simp only [bucketB, h1, h2, h3, h4, h5, h6, cond_true, cond_false] <;> rfl)) (rvt (by simp only [bucketE, h1, h2, h3, h4, h5, h6, cond_true, cond_false] <;> rfl)))
            · skip
              refine cskip ?_
              refine nblkN ?_
              refine nthen ?_
              refine creg ?_
              first | refine l1 (addn rfl rfl (ri (by omega) (by omega))) ?_ | refine l1 (add rfl rfl) ?_
              refine l1 (mvi rfl) ?_
              refine lnil ?_
              refine nround (rsucc ?_)
              refine cseq ?_
              refine creg ?_
              refine l1 (lss rfl rfl) ?_
              refine lnil ?_
              refine nthen ?_
              refine cseq ?_
              refine cift rfl ?_
              refine cskip ?_
              refine nthen ?_
              refine cseq ?_
              refine cblock ?_
              refine cseq ?_
              refine creg ?_
              refine l1 (mvi rfl) ?_
              refine l1 (asgi rfl) ?_
              refine lnil ?_
              refine nthen ?_
              refine cseq ?_
              refine creg ?_
              refine l1 (mvi rfl) ?_
              refine l1 (mvi rfl) ?_
              refine l1 (binc rfl rfl (shl3_64_5 _ _)) ?_
              refine l1 (lss rfl rfl) ?_
              refine lnil ?_
              refine nthen ?_
              refine cif rfl (fun h7 => ?_) (fun h7 => ?_)
              · skip
                refine cseq ?_
                refine creg ?_
                refine l1 (mvi rfl) ?_
                refine l1 (binc rfl rfl (shl3_64_5 _ _)) ?_
                refine l1 (asgi rfl) ?_
                refine l1 (asgi rfl) ?_
                refine lnil ?_
                refine nthen ?_
                refine cret ?_
                refine nblkR ?_
                refine nthenR ?_
                refine nroundR ?_
                refine nblkR ?_
                refine nthenR ?_
                exact fin (rv2 rfl (rvt (by simp only [bucketB, h1, h2, h3, h4, h5, h6, h7, cond_true, cond_false] <;> rfl)) (rvt (by simp only [bucketE, h1, h2, h3, h4, h5, h6, h7, cond_true, cond_false] <;> rfl)))
              · skip
                refine cskip ?_
                refine nblkN ?_
                refine nthen ?_
                refine creg ?_
                first | refine l1 (addn rfl rfl (ri (by omega) (by omega))) ?_ | refine l1 (add rfl rfl) ?_
                refine l1 (mvi rfl) ?_
                refine lnil ?_
                refine nround (rsucc ?_)
                refine cseq ?_
                refine creg ?_
                refine l1 (lss rfl rfl) ?_
                refine lnil ?_
                refine nthen ?_
                refine cseq ?_
                refine ciff rfl ?_
                refine cexit ?_
                refine nthenE ?_
                refine nroundE ?_
                refine nblkE ?_
                refine nthen ?_
                refine cseq ?_
                refine creg ?_
                refine l1 (asgi rfl) ?_
                refine l1 (asgi rfl) ?_
                refine lnil ?_
                refine nthen ?_
                refine cret ?_
                exact fin (rv2 rfl (rvt (by simp only [bucketB, h1, h2, h3, h4, h5, h6, h7, cond_true, cond_false] <;> rfl)) (rvt (by simp only [bucketE, h1, h2, h3, h4, h5, h6, h7, cond_true, cond_false] <;> rfl)))

def isB (n : Int) : Bool := decide (bucketE (IntKind.i64.wrap (n - 1)) = 0) && decide (bucketB (IntKind.i64.wrap (n - 1)) = n)

theorem isPad_calls (n : Int) (w : World) : Calls Try.prog 109 #[.int .i64 n] w (Ret (.bool (isB n)) w) := by
  refine fn_calls (n := 18) Try.func109 rfl rfl (lb rfl) ?_
  refine cseq ?_
  refine creg ?_
  refine l1 (asgb rfl) ?_
  refine lnil ?_
  refine nthen ?_
  refine cseq ?_
  refine creg ?_
  refine l1 (mvi rfl) ?_
  first | refine l1 (subn rfl rfl (ri (by omega) (by omega))) ?_ | refine l1 (sub rfl rfl) ?_
  refine l1 (cl hb131 rfl (mc rfl mn) (fun w hw => bucket_calls _ w)) ?_
  refine l1 (mv rfl) ?_
  refine l1 (ext rfl rfl) ?_
  refine l1 (ext rfl rfl) ?_
  refine l1 (asgi rfl) ?_
  refine l1 (asgi rfl) ?_
  refine lnil ?_
  refine nthen ?_
  refine cseq ?_
  refine creg ?_
  refine l1 (mvi rfl) ?_
  refine l1 (eql rfl rfl) ?_
  refine l1 (mvb rfl) ?_
  refine l1g rfl (gwt rfl) (fun h => mvi rfl) ?_
  refine l1g rfl (gwt rfl) (fun h => mvi rfl) ?_
  refine l1g rfl (gwt rfl) (fun h => eql (gvt h) (gvt h)) ?_
  refine l1 (pk_and rfl rfl rfl) ?_
  refine l1 (asgb rfl) ?_
  refine lnil ?_
  refine nthen ?_
  refine cret ?_
  exact fin1 rfl rfl
end Go.Proofs.Ytkdbjhlkahkobaa
/- walks, printed by a program of ours -/
namespace Go.Proofs.Ytkdbjhlkahkobaa
open Jal Go.RowKit
set_option maxRecDepth 100000
def plcB (x : Hd) : Bool := ((((((decide (x.writer < 1) || decide (x.writer > 6)) || decide (x.seq < 1)) || decide (x.seq > 1048576)) || decide (x.epoch < 0)) || decide (x.epoch > 255)) || decide (x.time > 1099511627776)) || decide (x.knows (x.writer - 1).toNat ≠ x.seq - 1)
def knowB (k : Nat → Int) (r : Bool) : Bool := bif decide (k 0 > 1048576) then false else bif decide (k 1 > 1048576) then false else bif decide (k 2 > 1048576) then false else bif decide (k 3 > 1048576) then false else bif decide (k 4 > 1048576) then false else bif decide (k 5 > 1048576) then false else r
def firstB (x : Hd) : Bool := decide (x.seq > 1) || eqA 32 x.prev (fun _ => 0)
def plainB (x : Hd) : Bool := !x.control || (decide ((x.tn : Int) = 0) && eqA 16 x.item (fun _ => 0))
def placedB (x : Hd) : Bool := bif plcB x then false else knowB x.knows (firstB x)
def formedH (x : Hd) : Bool := bif ((!placedB x || decide ((x.tn : Int) > 8)) || !sortedT x.tn x.tok) || !isB (IntKind.i64.wrap (x.size - 16)) then false else plainB x
theorem plc_no {x : Hd} (h : plcB x = false) : 1 ≤ x.writer ∧ x.writer ≤ 6 ∧ 1 ≤ x.seq ∧ x.seq ≤ 1048576 ∧ 0 ≤ x.epoch ∧ x.epoch ≤ 255 ∧ x.time ≤ 1099511627776 ∧ x.knows (x.writer - 1).toNat = x.seq - 1 := by
  simp only [plcB, Bool.or_eq_false_iff, decide_eq_false_iff_not, Decidable.not_not, ne_eq] at h; omega
theorem placed_no {x : Hd} (h : placedB x = true) : plcB x = false := by
  cases hp : plcB x with
  | false => rfl
  | true => simp [placedB, hp] at h
theorem formed_placed {x : Hd} (h : formedH x = true) : placedB x = true := by
  cases hp : placedB x with
  | true => rfl
  | false => simp [formedH, hp] at h
theorem formed_w {x : Hd} (h : formedH x = true) : 1 ≤ x.writer ∧ x.writer ≤ 6 ∧ 1 ≤ x.seq ∧ x.seq ≤ 1048576 ∧ 0 ≤ x.epoch ∧ x.epoch ≤ 255 ∧ x.time ≤ 1099511627776 ∧ x.knows (x.writer - 1).toNat = x.seq - 1 := plc_no (placed_no (formed_placed h))

theorem placed_calls (x : Hd) (w : World) : Calls Try.prog 107 #[.agg (encH x).toArray] w (Ret (.bool (placedB x)) w) := by
  refine fn_calls (n := 67) Try.func107 rfl rfl (lb rfl) ?_
  refine cseq ?_
  refine creg ?_
  refine lbxa rfl (fun b1 => ?_)
  refine l1 (asgb rfl) ?_
  refine lnil ?_
  refine nthen ?_
  refine cseq ?_
  refine cseq ?_
  refine cregq mo (by kernel_rfl) ?_
  refine q1 (fa fa37_0 rfl) ?_
  refine q1 (ldc 0 Try.isAgg3 rfl rfl rfl) ?_
  refine q1 (lss rfl rfl) ?_
  refine q1 (mvb rfl) ?_
  refine q1g rfl (gwf rfl) (fun h => fa fa37_0 rfl) ?_
  refine q1g rfl (gwf rfl) (fun h => ldc 0 Try.isAgg3 rfl (gvt h) rfl) ?_
  refine q1g rfl (gwf rfl) (fun h => gtr (gvt h) rfl) ?_
  refine q1 (pk_or rfl rfl rfl) ?_
  refine q1 (mvb rfl) ?_
  refine q1g rfl (gwf rfl) (fun h => fa fa37_1 rfl) ?_
  refine q1g rfl (gwf rfl) (fun h => ldc 0 Try.isAgg22 rfl (gvt h) rfl) ?_
  refine q1g rfl (gwf rfl) (fun h => lss (gvt h) rfl) ?_
  refine q1 (pk_or rfl rfl rfl) ?_
  refine q1 (mvb rfl) ?_
  refine q1g rfl (gwf rfl) (fun h => fa fa37_1 rfl) ?_
  refine q1g rfl (gwf rfl) (fun h => ldc 0 Try.isAgg22 rfl (gvt h) rfl) ?_
  refine q1g rfl (gwf rfl) (fun h => gtr (gvt h) rfl) ?_
  refine q1 (pk_or rfl rfl rfl) ?_
  refine q1 (mvb rfl) ?_
  refine q1g rfl (gwf rfl) (fun h => fa fa37_3 rfl) ?_
  refine q1g rfl (gwf rfl) (fun h => ldc 0 Try.isAgg3 rfl (gvt h) rfl) ?_
  refine q1g rfl (gwf rfl) (fun h => lss (gvt h) rfl) ?_
  refine q1 (pk_or rfl rfl rfl) ?_
  refine q1 (mvb rfl) ?_
  refine q1g rfl (gwf rfl) (fun h => fa fa37_3 rfl) ?_
  refine q1g rfl (gwf rfl) (fun h => ldc 0 Try.isAgg3 rfl (gvt h) rfl) ?_
  refine q1g rfl (gwf rfl) (fun h => gtr (gvt h) rfl) ?_
  refine q1 (pk_or rfl rfl rfl) ?_
  refine q1 (mvb rfl) ?_
  refine q1g rfl (gwf rfl) (fun h => fa fa37_5 rfl) ?_
  refine q1g rfl (gwf rfl) (fun h => ldc 0 Try.isAgg22 rfl (gvt h) rfl) ?_
  refine q1g rfl (gwf rfl) (fun h => gtr (gvt h) rfl) ?_
  refine q1 (pk_or rfl rfl rfl) ?_
  refine q1 (mvb rfl) ?_
  refine q1g rfl (gwf rfl) (fun h => fa fa37_0 rfl) ?_
  refine q1g rfl (gwf rfl) (fun h => ldc 0 Try.isAgg3 rfl (gvt h) rfl) ?_
  first | refine q1g rfl (gwf rfl) (fun h => subn (gvt h) rfl (ri (by first | omega | (simp at h; omega)) (by first | omega | (simp at h; omega))) ) ?_ | refine q1g rfl (gwf rfl) (fun h => sub (gvt h) rfl ) ?_
  refine q1g rfl (gwf rfl) (fun h => fa fa37_8 rfl) ?_
  refine q1g rfl (gwf rfl) (fun h => ia ar23 (gvt h) (gvt h) (by first | omega | (simp at h; omega)) (by first | omega | (simp at h; omega))) ?_
  refine q1g rfl (gwf rfl) (fun h => ldc 0 Try.isAgg22 rfl (gvt h) (encH_know _ _ (by first | omega | (simp at h; omega)))) ?_
  refine q1g rfl (gwf rfl) (fun h => fa fa37_1 rfl) ?_
  refine q1g rfl (gwf rfl) (fun h => ldc 0 Try.isAgg22 rfl (gvt h) rfl) ?_
  first | refine q1g rfl (gwf rfl) (fun h => subn (gvt h) rfl (ru (by first | omega | (simp at h; omega)) (by first | omega | (simp at h; omega))) ) ?_ | refine q1g rfl (gwf rfl) (fun h => sub (gvt h) rfl ) ?_
  refine q1g rfl (gwf rfl) (fun h => neq (gvt h) (gvt h)) ?_
  refine q1 (pk_or rfl rfl rfl) ?_
  refine qnil ?_
  refine nthen ?_
  refine cif rfl (fun h1 => ?_) (fun h1 => ?_)
  · change plcB x = _ at h1
    refine cseq ?_
    refine creg ?_
    refine l1 (asgb rfl) ?_
    refine lnil ?_
    refine nthen ?_
    refine cret ?_
    refine nthenR ?_
    exact fin1b rfl rfl (by first | rfl | (simp only [placedB, knowB, firstB, h1, cond_true, cond_false]; done))
  · change plcB x = _ at h1
    refine cskip ?_
    refine nthen ?_
    refine cseq ?_
    refine cseq ?_
    refine creg ?_
    refine l1 (fa fa37_8 rfl) ?_
    refine l1 (lda 0 Try.isAgg23 Try.sizeOf23 rfl rfl (encH_knows _) rfl) ?_
    refine l1 (mvi rfl) ?_
    refine lnil ?_
    refine nthen ?_
    refine cblock ?_
    refine cloopN 7 ?_
    refine rsucc ?_
    refine cseq ?_
    refine creg ?_
    refine l1 (lss rfl rfl) ?_
    refine lnil ?_
    refine nthen ?_
    refine cseq ?_
    refine cift rfl ?_
    refine cskip ?_
    refine nthen ?_
    refine cseq ?_
    refine cblock ?_
    refine cseq ?_
    refine creg ?_
    refine l1 (ixv Try.underlying23 Try.sizeOf22 Try.isAgg22 rfl rfl (by decide) (by decide) rfl) ?_
    refine l1 (asgi rfl) ?_
    refine lnil ?_
    refine nthen ?_
    refine cseq ?_
    refine creg ?_
    refine l1 (mvi rfl) ?_
    refine l1 (gtr rfl rfl) ?_
    refine lnil ?_
    refine nthen ?_
    refine cif rfl (fun h2 => ?_) (fun h2 => ?_)
    · skip
      refine cseq ?_
      refine creg ?_
      refine l1 (asgb rfl) ?_
      refine lnil ?_
      refine nthen ?_
      refine cret ?_
      refine nblkR ?_
      refine nthenR ?_
      refine nroundR ?_
      refine nblkR ?_
      refine nthenR ?_
      exact fin1b rfl rfl (by first | rfl | (simp only [placedB, knowB, firstB, h1, h2, cond_true, cond_false]; done))
    · skip
      refine cskip ?_
      refine nblkN ?_
      refine nthen ?_
      refine creg ?_
      first | refine l1 (addn rfl rfl (ri (by omega) (by omega))) ?_ | refine l1 (add rfl rfl) ?_
      refine l1 (mvi rfl) ?_
      refine lnil ?_
      refine nround (rsucc ?_)
      refine cseq ?_
      refine creg ?_
      refine l1 (lss rfl rfl) ?_
      refine lnil ?_
      refine nthen ?_
      refine cseq ?_
      refine cift rfl ?_
      refine cskip ?_
      refine nthen ?_
      refine cseq ?_
      refine cblock ?_
      refine cseq ?_
      refine creg ?_
      refine l1 (ixv Try.underlying23 Try.sizeOf22 Try.isAgg22 rfl rfl (by decide) (by decide) rfl) ?_
      refine l1 (asgi rfl) ?_
      refine lnil ?_
      refine nthen ?_
      refine cseq ?_
      refine creg ?_
      refine l1 (mvi rfl) ?_
      refine l1 (gtr rfl rfl) ?_
      refine lnil ?_
      refine nthen ?_
      refine cif rfl (fun h3 => ?_) (fun h3 => ?_)
      · skip
        refine cseq ?_
        refine creg ?_
        refine l1 (asgb rfl) ?_
        refine lnil ?_
        refine nthen ?_
        refine cret ?_
        refine nblkR ?_
        refine nthenR ?_
        refine nroundR ?_
        refine nblkR ?_
        refine nthenR ?_
        exact fin1b rfl rfl (by first | rfl | (simp only [placedB, knowB, firstB, h1, h2, h3, cond_true, cond_false]; done))
      · skip
        refine cskip ?_
        refine nblkN ?_
        refine nthen ?_
        refine creg ?_
        first | refine l1 (addn rfl rfl (ri (by omega) (by omega))) ?_ | refine l1 (add rfl rfl) ?_
        refine l1 (mvi rfl) ?_
        refine lnil ?_
        refine nround (rsucc ?_)
        refine cseq ?_
        refine creg ?_
        refine l1 (lss rfl rfl) ?_
        refine lnil ?_
        refine nthen ?_
        refine cseq ?_
        refine cift rfl ?_
        refine cskip ?_
        refine nthen ?_
        refine cseq ?_
        refine cblock ?_
        refine cseq ?_
        refine creg ?_
        refine l1 (ixv Try.underlying23 Try.sizeOf22 Try.isAgg22 rfl rfl (by decide) (by decide) rfl) ?_
        refine l1 (asgi rfl) ?_
        refine lnil ?_
        refine nthen ?_
        refine cseq ?_
        refine creg ?_
        refine l1 (mvi rfl) ?_
        refine l1 (gtr rfl rfl) ?_
        refine lnil ?_
        refine nthen ?_
        refine cif rfl (fun h4 => ?_) (fun h4 => ?_)
        · skip
          refine cseq ?_
          refine creg ?_
          refine l1 (asgb rfl) ?_
          refine lnil ?_
          refine nthen ?_
          refine cret ?_
          refine nblkR ?_
          refine nthenR ?_
          refine nroundR ?_
          refine nblkR ?_
          refine nthenR ?_
          exact fin1b rfl rfl (by first | rfl | (simp only [placedB, knowB, firstB, h1, h2, h3, h4, cond_true, cond_false]; done))
        · skip
          refine cskip ?_
          refine nblkN ?_
          refine nthen ?_
          refine creg ?_
          first | refine l1 (addn rfl rfl (ri (by omega) (by omega))) ?_ | refine l1 (add rfl rfl) ?_
          refine l1 (mvi rfl) ?_
          refine lnil ?_
          refine nround (rsucc ?_)
          refine cseq ?_
          refine creg ?_
          refine l1 (lss rfl rfl) ?_
          refine lnil ?_
          refine nthen ?_
          refine cseq ?_
          refine cift rfl ?_
          refine cskip ?_
          refine nthen ?_
          refine cseq ?_
          refine cblock ?_
          refine cseq ?_
          refine creg ?_
          refine l1 (ixv Try.underlying23 Try.sizeOf22 Try.isAgg22 rfl rfl (by decide) (by decide) rfl) ?_
          refine l1 (asgi rfl) ?_
          refine lnil ?_
          refine nthen ?_
          refine cseq ?_
          refine creg ?_
          refine l1 (mvi rfl) ?_
          refine l1 (gtr rfl rfl) ?_
          refine lnil ?_
          refine nthen ?_
          refine cif rfl (fun h5 => ?_) (fun h5 => ?_)
          · skip
            refine cseq ?_
            refine creg ?_
            refine l1 (asgb rfl) ?_
            refine lnil ?_
            refine nthen ?_
            refine cret ?_
            refine nblkR ?_
            refine nthenR ?_
            refine nroundR ?_
            refine nblkR ?_
            refine nthenR ?_
            exact fin1b rfl rfl (by first | rfl | (simp only [placedB, knowB, firstB, h1, h2, h3, h4, h5, cond_true, cond_false]; done))
          · skip
            refine cskip ?_
            refine nblkN ?_
            refine nthen ?_
            refine creg ?_
            first | refine l1 (addn rfl rfl (ri (by omega) (by omega))) ?_ | refine l1 (add rfl rfl) ?_
            refine l1 (mvi rfl) ?_
            refine lnil ?_
            refine nround (rsucc ?_)
            refine cseq ?_
            refine creg ?_
            refine l1 (lss rfl rfl) ?_
            refine lnil ?_
            refine nthen ?_
            refine cseq ?_
            refine cift rfl ?_
            refine cskip ?_
            refine nthen ?_
            refine cseq ?_
            refine cblock ?_
            refine cseq ?_
            refine creg ?_
            refine l1 (ixv Try.underlying23 Try.sizeOf22 Try.isAgg22 rfl rfl (by decide) (by decide) rfl) ?_
            refine l1 (asgi rfl) ?_
            refine lnil ?_
            refine nthen ?_
            refine cseq ?_
            refine creg ?_
            refine l1 (mvi rfl) ?_
            refine l1 (gtr rfl rfl) ?_
            refine lnil ?_
            refine nthen ?_
            refine cif rfl (fun h6 => ?_) (fun h6 => ?_)
            · skip
              refine cseq ?_
              refine creg ?_
              refine l1 (asgb rfl) ?_
              refine lnil ?_
              refine nthen ?_
              refine cret ?_
              refine nblkR ?_
              refine nthenR ?_
              refine nroundR ?_
              refine nblkR ?_
              refine nthenR ?_
              exact fin1b rfl rfl (by first | rfl | (simp only [placedB, knowB, firstB, h1, h2, h3, h4, h5, h6, cond_true, cond_false]; done))
            · skip
              refine cskip ?_
              refine nblkN ?_
              refine nthen ?_
              refine creg ?_
              first | refine l1 (addn rfl rfl (ri (by omega) (by omega))) ?_ | refine l1 (add rfl rfl) ?_
              refine l1 (mvi rfl) ?_
              refine lnil ?_
              refine nround (rsucc ?_)
              refine cseq ?_
              refine creg ?_
              refine l1 (lss rfl rfl) ?_
              refine lnil ?_
              refine nthen ?_
              refine cseq ?_
              refine cift rfl ?_
              refine cskip ?_
              refine nthen ?_
              refine cseq ?_
              refine cblock ?_
              refine cseq ?_
              refine creg ?_
              refine l1 (ixv Try.underlying23 Try.sizeOf22 Try.isAgg22 rfl rfl (by decide) (by decide) rfl) ?_
              refine l1 (asgi rfl) ?_
              refine lnil ?_
              refine nthen ?_
              refine cseq ?_
              refine creg ?_
              refine l1 (mvi rfl) ?_
              refine l1 (gtr rfl rfl) ?_
              refine lnil ?_
              refine nthen ?_
              refine cif rfl (fun h7 => ?_) (fun h7 => ?_)
              · skip
                refine cseq ?_
                refine creg ?_
                refine l1 (asgb rfl) ?_
                refine lnil ?_
                refine nthen ?_
                refine cret ?_
                refine nblkR ?_
                refine nthenR ?_
                refine nroundR ?_
                refine nblkR ?_
                refine nthenR ?_
                exact fin1b rfl rfl (by first | rfl | (simp only [placedB, knowB, firstB, h1, h2, h3, h4, h5, h6, h7, cond_true, cond_false]; done))
              · skip
                refine cskip ?_
                refine nblkN ?_
                refine nthen ?_
                refine creg ?_
                first | refine l1 (addn rfl rfl (ri (by omega) (by omega))) ?_ | refine l1 (add rfl rfl) ?_
                refine l1 (mvi rfl) ?_
                refine lnil ?_
                refine nround (rsucc ?_)
                refine cseq ?_
                refine creg ?_
                refine l1 (lss rfl rfl) ?_
                refine lnil ?_
                refine nthen ?_
                refine cseq ?_
                refine ciff rfl ?_
                refine cexit ?_
                refine nthenE ?_
                refine nroundE ?_
                refine nblkE ?_
                refine nthen ?_
                refine cseq ?_
                refine creg ?_
                refine l1 (fa fa37_1 rfl) ?_
                refine l1 (ldc 0 Try.isAgg22 rfl rfl rfl) ?_
                refine l1 (gtr rfl rfl) ?_
                refine l1 (mvb rfl) ?_
                refine l1g rfl (gwf rfl) (fun h => fa fa37_2 rfl) ?_
                refine l1g rfl (gwf rfl) (fun h => lda 0 Try.isAgg32 Try.sizeOf32 rfl (gvt h) (encH_prev _) rfl) ?_
                refine l1g rfl (gwf rfl) (fun h => bld0 bk32z) ?_
                refine l1g rfl (gwf rfl) (fun h => eqla (gvt h) (gvt h) (fun w => eql32 _ _ w)) ?_
                refine l1 (pk_or rfl rfl rfl) ?_
                refine l1 (asgb rfl) ?_
                refine lnil ?_
                refine nthen ?_
                refine cret ?_
                exact fin1b rfl rfl (by first | rfl | (simp only [placedB, knowB, firstB, h1, h2, h3, h4, h5, h6, h7, cond_true, cond_false]; done))

theorem hformed_calls (x : Hd) (w : World) (hx : HdIn w x) (kx : HdOk x) : Calls Try.prog 76 #[.agg (encH x).toArray] w (Ret (.bool (formedH x)) w) := by
  refine fn_calls (n := 40) Try.func76 rfl rfl (lb rfl) ?_
  refine cseq ?_
  refine creg ?_
  refine lbxa rfl (fun b1 => ?_)
  refine l1 (asgb rfl) ?_
  refine lnil ?_
  refine nthen ?_
  refine cseq ?_
  refine cseq ?_
  refine creg ?_
  refine l1 (ldw 0 Try.isAgg37 Try.sizeOf37 rfl rfl rfl) ?_
  refine l1 (cl hb107 rfl (mc rfl mn) (fun w hw => placed_calls _ w)) ?_
  refine l1 (nt rfl) ?_
  refine l1 (mvb rfl) ?_
  refine l1g rfl (gwf rfl) (fun h => fa fa37_7 rfl) ?_
  refine l1g rfl (gwf rfl) (fun h => ldc 0 Try.isAgg35 rfl (gvt h) rfl) ?_
  refine l1g rfl (gwf rfl) (fun h => lens sl35 rfl (gvt h)) ?_
  refine l1g rfl (gwf rfl) (fun h => gtr (gvt h) rfl) ?_
  refine l1 (pk_or rfl rfl rfl) ?_
  refine l1 (mvb rfl) ?_
  refine l1g rfl (gwf rfl) (fun h => fa fa37_7 rfl) ?_
  refine l1g rfl (gwf rfl) (fun h => ldc 0 Try.isAgg35 rfl (gvt h) rfl) ?_
  refine l1g rfl (gwf rfl) (fun h => cl hb108 rfl (mc (gvt h) mn) (fun w hw => sorted_calls w _ _ _ _ kx.n (Sl.keptS hx hw) kx.tok)) ?_
  refine l1g rfl (gwf rfl) (fun h => nt (gvt h)) ?_
  refine l1 (pk_or rfl rfl rfl) ?_
  refine l1 (mvb rfl) ?_
  refine l1g rfl (gwf rfl) (fun h => fa fa37_10 rfl) ?_
  refine l1g rfl (gwf rfl) (fun h => ldc 0 Try.isAgg3 rfl (gvt h) rfl) ?_
  refine l1g rfl (gwf rfl) (fun h => sub (gvt h) rfl) ?_
  refine l1g rfl (gwf rfl) (fun h => cl hb109 rfl (mc (gvt h) mn) (fun w hw => isPad_calls _ w)) ?_
  refine l1g rfl (gwf rfl) (fun h => nt (gvt h)) ?_
  refine l1 (pk_or rfl rfl rfl) ?_
  refine lnil ?_
  refine nthen ?_
  refine cif rfl (fun h1 => ?_) (fun h1 => ?_)
  · skip
    refine cseq ?_
    refine creg ?_
    refine l1 (asgb rfl) ?_
    refine lnil ?_
    refine nthen ?_
    refine cret ?_
    refine nthenR ?_
    exact fin1b rfl rfl (by first | rfl | (simp only [formedH, plainB, h1, cond_true, cond_false]; done))
  · skip
    refine cskip ?_
    refine nthen ?_
    refine cseq ?_
    refine creg ?_
    refine l1 (fa fa37_4 rfl) ?_
    refine l1 (ldc 0 Try.isAgg4 rfl rfl rfl) ?_
    refine l1 (nt rfl) ?_
    refine l1 (mvb rfl) ?_
    refine l1g rfl (gwf rfl) (fun h => fa fa37_7 rfl) ?_
    refine l1g rfl (gwf rfl) (fun h => ldc 0 Try.isAgg35 rfl (gvt h) rfl) ?_
    refine l1g rfl (gwf rfl) (fun h => lens sl35 rfl (gvt h)) ?_
    refine l1g rfl (gwf rfl) (fun h => eql (gvt h) rfl) ?_
    refine l1g rfl (gwf rfl) (fun h => mvb (gvt h)) ?_
    refine l1g rfl (ggt rfl) (fun h => fa fa37_6 rfl) ?_
    refine l1g rfl (ggt rfl) (fun h => lda 0 Try.isAgg34 Try.sizeOf34 rfl (gvt h) (encH_item _) rfl) ?_
    refine l1g rfl (ggt rfl) (fun h => bld0 bk34z) ?_
    refine l1g rfl (ggt rfl) (fun h => eqla (gvt h) (gvt h) (fun w => eql34 _ _ w)) ?_
    refine l1g rfl (gwf rfl) (fun h => pk_and (gvt h) (gva h) rfl) ?_
    refine l1 (pk_or rfl rfl rfl) ?_
    refine l1 (asgb rfl) ?_
    refine lnil ?_
    refine nthen ?_
    refine cret ?_
    exact fin1b rfl rfl (by first | rfl | (simp only [formedH, plainB, h1, cond_true, cond_false]; done))

theorem bk156 : ∀ w, (Instr.build 156 #[(0, .int .i64 64), (1, .int .i64 128), (2, .int .i64 256), (3, .int .i64 512), (4, .int .i64 1024), (5, .int .i64 2048)]).run Try.prog w = .ok (.agg [.int .i64 64, .int .i64 128, .int .i64 256, .int .i64 512, .int .i64 1024, .int .i64 2048].toArray) w := fun w => by kernel_rfl
def rbucketB (n : Int) : Int := bif decide (n < 64) then 64 else bif decide (n < 128) then 128 else bif decide (n < 256) then 256 else bif decide (n < 512) then 512 else bif decide (n < 1024) then 1024 else bif decide (n < 2048) then 2048 else 0

theorem rbucket_calls (n : Int) (w : World) : Calls Try.prog 111 #[.int .i64 n] w (Ret (.int .i64 (rbucketB n)) w) := by
  refine fn_calls (n := 18) Try.func111 rfl rfl (lb rfl) ?_
  refine cseq ?_
  refine creg ?_
  refine l1 (asgi rfl) ?_
  refine lnil ?_
  refine nthen ?_
  refine cseq ?_
  refine creg ?_
  refine l1 (bldk rfl bk156) ?_
  refine lal Try.zeroValue156 rfl (fun b1 => ?_)
  refine lstw 0 rfl rfl rfl Try.sizeOf156 rfl rfl rfl ?_
  refine lnil ?_
  refine nthen ?_
  refine cseq ?_
  refine cseq ?_
  refine creg ?_
  refine l1 (asgi rfl) ?_
  refine lnil ?_
  refine nthen ?_
  refine cblock ?_
  refine cloopN 7 ?_
  refine rsucc ?_
  refine cseq ?_
  refine cseq ?_
  refine creg ?_
  refine l1 (mvi rfl) ?_
  refine l1 (lss rfl rfl) ?_
  refine lnil ?_
  refine nthen ?_
  refine cift rfl ?_
  refine cskip ?_
  refine nthen ?_
  refine cseq ?_
  refine cblock ?_
  refine cseq ?_
  refine creg ?_
  refine l1 (mvi rfl) ?_
  refine l1 (mvi rfl) ?_
  refine l1 (ia ar156 rfl rfl (by decide) (by decide)) ?_
  refine l1 (ldc 0 Try.isAgg3 rfl rfl rfl) ?_
  refine l1 (lss rfl rfl) ?_
  refine lnil ?_
  refine nthen ?_
  refine cif rfl (fun h1 => ?_) (fun h1 => ?_)
  · skip
    refine cseq ?_
    refine creg ?_
    refine l1 (mvi rfl) ?_
    refine l1 (ia ar156 rfl rfl (by decide) (by decide)) ?_
    refine l1 (ldc 0 Try.isAgg3 rfl rfl rfl) ?_
    refine l1 (asgi rfl) ?_
    refine lnil ?_
    refine nthen ?_
    refine cret ?_
    refine nblkR ?_
    refine nthenR ?_
    refine nroundR ?_
    refine nblkR ?_
    refine nthenR ?_
    exact fin1i rfl rfl (by first | rfl | (simp only [rbucketB, h1, cond_true, cond_false]; done))
  · skip
    refine cskip ?_
    refine nblkN ?_
    refine nthen ?_
    refine creg ?_
    refine l1 (mvi rfl) ?_
    first | refine l1 (addn rfl rfl (ri (by omega) (by omega))) ?_ | refine l1 (add rfl rfl) ?_
    refine l1 (asgi rfl) ?_
    refine lnil ?_
    refine nround (rsucc ?_)
    refine cseq ?_
    refine cseq ?_
    refine creg ?_
    refine l1 (mvi rfl) ?_
    refine l1 (lss rfl rfl) ?_
    refine lnil ?_
    refine nthen ?_
    refine cift rfl ?_
    refine cskip ?_
    refine nthen ?_
    refine cseq ?_
    refine cblock ?_
    refine cseq ?_
    refine creg ?_
    refine l1 (mvi rfl) ?_
    refine l1 (mvi rfl) ?_
    refine l1 (ia ar156 rfl rfl (by decide) (by decide)) ?_
    refine l1 (ldc 0 Try.isAgg3 rfl rfl rfl) ?_
    refine l1 (lss rfl rfl) ?_
    refine lnil ?_
    refine nthen ?_
    refine cif rfl (fun h2 => ?_) (fun h2 => ?_)
    · skip
      refine cseq ?_
      refine creg ?_
      refine l1 (mvi rfl) ?_
      refine l1 (ia ar156 rfl rfl (by decide) (by decide)) ?_
      refine l1 (ldc 0 Try.isAgg3 rfl rfl rfl) ?_
      refine l1 (asgi rfl) ?_
      refine lnil ?_
      refine nthen ?_
      refine cret ?_
      refine nblkR ?_
      refine nthenR ?_
      refine nroundR ?_
      refine nblkR ?_
      refine nthenR ?_
      exact fin1i rfl rfl (by first | rfl | (simp only [rbucketB, h1, h2, cond_true, cond_false]; done))
    · skip
      refine cskip ?_
      refine nblkN ?_
      refine nthen ?_
      refine creg ?_
      refine l1 (mvi rfl) ?_
      first | refine l1 (addn rfl rfl (ri (by omega) (by omega))) ?_ | refine l1 (add rfl rfl) ?_
      refine l1 (asgi rfl) ?_
      refine lnil ?_
      refine nround (rsucc ?_)
      refine cseq ?_
      refine cseq ?_
      refine creg ?_
      refine l1 (mvi rfl) ?_
      refine l1 (lss rfl rfl) ?_
      refine lnil ?_
      refine nthen ?_
      refine cift rfl ?_
      refine cskip ?_
      refine nthen ?_
      refine cseq ?_
      refine cblock ?_
      refine cseq ?_
      refine creg ?_
      refine l1 (mvi rfl) ?_
      refine l1 (mvi rfl) ?_
      refine l1 (ia ar156 rfl rfl (by decide) (by decide)) ?_
      refine l1 (ldc 0 Try.isAgg3 rfl rfl rfl) ?_
      refine l1 (lss rfl rfl) ?_
      refine lnil ?_
      refine nthen ?_
      refine cif rfl (fun h3 => ?_) (fun h3 => ?_)
      · skip
        refine cseq ?_
        refine creg ?_
        refine l1 (mvi rfl) ?_
        refine l1 (ia ar156 rfl rfl (by decide) (by decide)) ?_
        refine l1 (ldc 0 Try.isAgg3 rfl rfl rfl) ?_
        refine l1 (asgi rfl) ?_
        refine lnil ?_
        refine nthen ?_
        refine cret ?_
        refine nblkR ?_
        refine nthenR ?_
        refine nroundR ?_
        refine nblkR ?_
        refine nthenR ?_
        exact fin1i rfl rfl (by first | rfl | (simp only [rbucketB, h1, h2, h3, cond_true, cond_false]; done))
      · skip
        refine cskip ?_
        refine nblkN ?_
        refine nthen ?_
        refine creg ?_
        refine l1 (mvi rfl) ?_
        first | refine l1 (addn rfl rfl (ri (by omega) (by omega))) ?_ | refine l1 (add rfl rfl) ?_
        refine l1 (asgi rfl) ?_
        refine lnil ?_
        refine nround (rsucc ?_)
        refine cseq ?_
        refine cseq ?_
        refine creg ?_
        refine l1 (mvi rfl) ?_
        refine l1 (lss rfl rfl) ?_
        refine lnil ?_
        refine nthen ?_
        refine cift rfl ?_
        refine cskip ?_
        refine nthen ?_
        refine cseq ?_
        refine cblock ?_
        refine cseq ?_
        refine creg ?_
        refine l1 (mvi rfl) ?_
        refine l1 (mvi rfl) ?_
        refine l1 (ia ar156 rfl rfl (by decide) (by decide)) ?_
        refine l1 (ldc 0 Try.isAgg3 rfl rfl rfl) ?_
        refine l1 (lss rfl rfl) ?_
        refine lnil ?_
        refine nthen ?_
        refine cif rfl (fun h4 => ?_) (fun h4 => ?_)
        · skip
          refine cseq ?_
          refine creg ?_
          refine l1 (mvi rfl) ?_
          refine l1 (ia ar156 rfl rfl (by decide) (by decide)) ?_
          refine l1 (ldc 0 Try.isAgg3 rfl rfl rfl) ?_
          refine l1 (asgi rfl) ?_
          refine lnil ?_
          refine nthen ?_
          refine cret ?_
          refine nblkR ?_
          refine nthenR ?_
          refine nroundR ?_
          refine nblkR ?_
          refine nthenR ?_
          exact fin1i rfl rfl (by first | rfl | (simp only [rbucketB, h1, h2, h3, h4, cond_true, cond_false]; done))
        · skip
          refine cskip ?_
          refine nblkN ?_
          refine nthen ?_
          refine creg ?_
          refine l1 (mvi rfl) ?_
          first | refine l1 (addn rfl rfl (ri (by omega) (by omega))) ?_ | refine l1 (add rfl rfl) ?_
          refine l1 (asgi rfl) ?_
          refine lnil ?_
          refine nround (rsucc ?_)
          refine cseq ?_
          refine cseq ?_
          refine creg ?_
          refine l1 (mvi rfl) ?_
          refine l1 (lss rfl rfl) ?_
          refine lnil ?_
          refine nthen ?_
          refine cift rfl ?_
          refine cskip ?_
          refine nthen ?_
          refine cseq ?_
          refine cblock ?_
          refine cseq ?_
          refine creg ?_
          refine l1 (mvi rfl) ?_
          refine l1 (mvi rfl) ?_
          refine l1 (ia ar156 rfl rfl (by decide) (by decide)) ?_
          refine l1 (ldc 0 Try.isAgg3 rfl rfl rfl) ?_
          refine l1 (lss rfl rfl) ?_
          refine lnil ?_
          refine nthen ?_
          refine cif rfl (fun h5 => ?_) (fun h5 => ?_)
          · skip
            refine cseq ?_
            refine creg ?_
            refine l1 (mvi rfl) ?_
            refine l1 (ia ar156 rfl rfl (by decide) (by decide)) ?_
            refine l1 (ldc 0 Try.isAgg3 rfl rfl rfl) ?_
            refine l1 (asgi rfl) ?_
            refine lnil ?_
            refine nthen ?_
            refine cret ?_
            refine nblkR ?_
            refine nthenR ?_
            refine nroundR ?_
            refine nblkR ?_
            refine nthenR ?_
            exact fin1i rfl rfl (by first | rfl | (simp only [rbucketB, h1, h2, h3, h4, h5, cond_true, cond_false]; done))
          · skip
            refine cskip ?_
            refine nblkN ?_
            refine nthen ?_
            refine creg ?_
            refine l1 (mvi rfl) ?_
            first | refine l1 (addn rfl rfl (ri (by omega) (by omega))) ?_ | refine l1 (add rfl rfl) ?_
            refine l1 (asgi rfl) ?_
            refine lnil ?_
            refine nround (rsucc ?_)
            refine cseq ?_
            refine cseq ?_
            refine creg ?_
            refine l1 (mvi rfl) ?_
            refine l1 (lss rfl rfl) ?_
            refine lnil ?_
            refine nthen ?_
            refine cift rfl ?_
            refine cskip ?_
            refine nthen ?_
            refine cseq ?_
            refine cblock ?_
            refine cseq ?_
            refine creg ?_
            refine l1 (mvi rfl) ?_
            refine l1 (mvi rfl) ?_
            refine l1 (ia ar156 rfl rfl (by decide) (by decide)) ?_
            refine l1 (ldc 0 Try.isAgg3 rfl rfl rfl) ?_
            refine l1 (lss rfl rfl) ?_
            refine lnil ?_
            refine nthen ?_
            refine cif rfl (fun h6 => ?_) (fun h6 => ?_)
            · skip
              refine cseq ?_
              refine creg ?_
              refine l1 (mvi rfl) ?_
              refine l1 (ia ar156 rfl rfl (by decide) (by decide)) ?_
              refine l1 (ldc 0 Try.isAgg3 rfl rfl rfl) ?_
              refine l1 (asgi rfl) ?_
              refine lnil ?_
              refine nthen ?_
              refine cret ?_
              refine nblkR ?_
              refine nthenR ?_
              refine nroundR ?_
              refine nblkR ?_
              refine nthenR ?_
              exact fin1i rfl rfl (by first | rfl | (simp only [rbucketB, h1, h2, h3, h4, h5, h6, cond_true, cond_false]; done))
            · skip
              refine cskip ?_
              refine nblkN ?_
              refine nthen ?_
              refine creg ?_
              refine l1 (mvi rfl) ?_
              first | refine l1 (addn rfl rfl (ri (by omega) (by omega))) ?_ | refine l1 (add rfl rfl) ?_
              refine l1 (asgi rfl) ?_
              refine lnil ?_
              refine nround (rsucc ?_)
              refine cseq ?_
              refine cseq ?_
              refine creg ?_
              refine l1 (mvi rfl) ?_
              refine l1 (lss rfl rfl) ?_
              refine lnil ?_
              refine nthen ?_
              refine ciff rfl ?_
              refine cexit ?_
              refine nthenE ?_
              refine nroundE ?_
              refine nblkE ?_
              refine nthen ?_
              refine cseq ?_
              refine creg ?_
              refine l1 (asgi rfl) ?_
              refine lnil ?_
              refine nthen ?_
              refine cret ?_
              exact fin1i rfl rfl (by first | rfl | (simp only [rbucketB, h1, h2, h3, h4, h5, h6, cond_true, cond_false]; done))

def rplcB (x : Hd) : Bool := ((((((((decide (x.writer < 1) || decide (x.writer > 6)) || decide (x.seq < 1)) || decide (x.seq > 1048576)) || decide (x.epoch < 0)) || decide (x.epoch > 255)) || decide (x.time > 1099511627776)) || decide ((x.tn : Int) > 8)) || !sortedT x.tn x.tok)
def rsizeB (x : Hd) : Bool := (decide (x.size ≥ 80) && decide (x.size ≤ 2064)) && decide (rbucketB (x.size - 17) = x.size - 16)
def rformedH (x : Hd) : Bool := bif rplcB x then false else knowB x.knows (((rsizeB x && firstB x) && plainB x) && decide (x.knows (x.writer - 1).toNat = x.seq - 1))
theorem rplc_no {x : Hd} (h : rplcB x = false) : 1 ≤ x.writer ∧ x.writer ≤ 6 ∧ 1 ≤ x.seq ∧ x.seq ≤ 1048576 := by
  simp [rplcB] at h; omega

set_option maxHeartbeats 1000000 in
theorem rformed_calls (x : Hd) (w : World) (hx : HdIn w x) (kx : HdOk x) : Calls Try.prog 77 #[.agg (encH x).toArray] w (Ret (.bool (rformedH x)) w) := by
  refine fn_calls (n := 122) Try.func77 rfl rfl (lb rfl) ?_
  refine cseq ?_
  refine creg ?_
  refine lbxa rfl (fun b1 => ?_)
  refine l1 (asgb rfl) ?_
  refine lnil ?_
  refine nthen ?_
  refine cseq ?_
  refine cseq ?_
  refine creg ?_
  refine l1 (fa fa37_0 rfl) ?_
  refine l1 (ldc 0 Try.isAgg3 rfl rfl rfl) ?_
  refine l1 (lss rfl rfl) ?_
  refine l1 (mvb rfl) ?_
  refine l1g rfl (gwf rfl) (fun h => fa fa37_0 rfl) ?_
  refine l1g rfl (gwf rfl) (fun h => ldc 0 Try.isAgg3 rfl (gvt h) rfl) ?_
  refine l1g rfl (gwf rfl) (fun h => gtr (gvt h) rfl) ?_
  refine l1 (pk_or rfl rfl rfl) ?_
  refine l1 (mvb rfl) ?_
  refine l1g rfl (gwf rfl) (fun h => fa fa37_1 rfl) ?_
  refine l1g rfl (gwf rfl) (fun h => ldc 0 Try.isAgg22 rfl (gvt h) rfl) ?_
  refine l1g rfl (gwf rfl) (fun h => lss (gvt h) rfl) ?_
  refine l1 (pk_or rfl rfl rfl) ?_
  refine l1 (mvb rfl) ?_
  refine l1g rfl (gwf rfl) (fun h => fa fa37_1 rfl) ?_
  refine l1g rfl (gwf rfl) (fun h => ldc 0 Try.isAgg22 rfl (gvt h) rfl) ?_
  refine l1g rfl (gwf rfl) (fun h => gtr (gvt h) rfl) ?_
  refine l1 (pk_or rfl rfl rfl) ?_
  refine l1 (mvb rfl) ?_
  refine l1g rfl (gwf rfl) (fun h => fa fa37_3 rfl) ?_
  refine l1g rfl (gwf rfl) (fun h => ldc 0 Try.isAgg3 rfl (gvt h) rfl) ?_
  refine l1g rfl (gwf rfl) (fun h => lss (gvt h) rfl) ?_
  refine l1 (pk_or rfl rfl rfl) ?_
  refine l1 (mvb rfl) ?_
  refine l1g rfl (gwf rfl) (fun h => fa fa37_3 rfl) ?_
  refine l1g rfl (gwf rfl) (fun h => ldc 0 Try.isAgg3 rfl (gvt h) rfl) ?_
  refine l1g rfl (gwf rfl) (fun h => gtr (gvt h) rfl) ?_
  refine l1 (pk_or rfl rfl rfl) ?_
  refine l1 (mvb rfl) ?_
  refine l1g rfl (gwf rfl) (fun h => fa fa37_5 rfl) ?_
  refine l1g rfl (gwf rfl) (fun h => ldc 0 Try.isAgg22 rfl (gvt h) rfl) ?_
  refine l1g rfl (gwf rfl) (fun h => gtr (gvt h) rfl) ?_
  refine l1 (pk_or rfl rfl rfl) ?_
  refine l1 (mvb rfl) ?_
  refine l1g rfl (gwf rfl) (fun h => fa fa37_7 rfl) ?_
  refine l1g rfl (gwf rfl) (fun h => ldc 0 Try.isAgg35 rfl (gvt h) rfl) ?_
  refine l1g rfl (gwf rfl) (fun h => lens sl35 rfl (gvt h)) ?_
  refine l1g rfl (gwf rfl) (fun h => gtr (gvt h) rfl) ?_
  refine l1 (pk_or rfl rfl rfl) ?_
  refine l1 (mvb rfl) ?_
  refine l1g rfl (gwf rfl) (fun h => fa fa37_7 rfl) ?_
  refine l1g rfl (gwf rfl) (fun h => ldc 0 Try.isAgg35 rfl (gvt h) rfl) ?_
  refine l1g rfl (gwf rfl) (fun h => cl hb110 rfl (mc (gvt h) mn) (fun w hw => rsorted_calls w _ _ _ _ kx.n (Sl.keptS hx hw) kx.tok)) ?_
  refine l1g rfl (gwf rfl) (fun h => nt (gvt h)) ?_
  refine l1 (pk_or rfl rfl rfl) ?_
  refine lnil ?_
  refine nthen ?_
  refine cif rfl (fun h1 => ?_) (fun h1 => ?_)
  · change rplcB x = _ at h1
    refine cseq ?_
    refine creg ?_
    refine l1 (asgb rfl) ?_
    refine lnil ?_
    refine nthen ?_
    refine cret ?_
    refine nthenR ?_
    exact fin1b rfl rfl (by first | rfl | (simp only [rformedH, knowB, rsizeB, firstB, plainB, h1, cond_true, cond_false]; done))
  · change rplcB x = _ at h1
    have hw6 := rplc_no h1
    refine cskip ?_
    refine nthen ?_
    refine cseq ?_
    refine cseq ?_
    refine creg ?_
    refine l1 (asgi rfl) ?_
    refine lnil ?_
    refine nthen ?_
    refine cblock ?_
    refine cloopN 7 ?_
    refine rsucc ?_
    refine cseq ?_
    refine cseq ?_
    refine creg ?_
    refine l1 (mvi rfl) ?_
    refine l1 (lss rfl rfl) ?_
    refine lnil ?_
    refine nthen ?_
    refine cift rfl ?_
    refine cskip ?_
    refine nthen ?_
    refine cseq ?_
    refine cblock ?_
    refine cseq ?_
    refine creg ?_
    refine l1 (mvi rfl) ?_
    refine l1 (fa fa37_8 rfl) ?_
    refine l1 (ia ar23 rfl rfl (by decide) (by decide)) ?_
    refine l1 (ldc 0 Try.isAgg22 rfl rfl rfl) ?_
    refine l1 (gtr rfl rfl) ?_
    refine lnil ?_
    refine nthen ?_
    refine cif rfl (fun h2 => ?_) (fun h2 => ?_)
    · skip
      refine cseq ?_
      refine creg ?_
      refine l1 (asgb rfl) ?_
      refine lnil ?_
      refine nthen ?_
      refine cret ?_
      refine nblkR ?_
      refine nthenR ?_
      refine nroundR ?_
      refine nblkR ?_
      refine nthenR ?_
      exact fin1b rfl rfl (by first | rfl | (simp only [rformedH, knowB, rsizeB, firstB, plainB, h1, h2, cond_true, cond_false]; done))
    · skip
      refine cskip ?_
      refine nblkN ?_
      refine nthen ?_
      refine creg ?_
      refine l1 (mvi rfl) ?_
      first | refine l1 (addn rfl rfl (ri (by omega) (by omega))) ?_ | refine l1 (add rfl rfl) ?_
      refine l1 (asgi rfl) ?_
      refine lnil ?_
      refine nround (rsucc ?_)
      refine cseq ?_
      refine cseq ?_
      refine creg ?_
      refine l1 (mvi rfl) ?_
      refine l1 (lss rfl rfl) ?_
      refine lnil ?_
      refine nthen ?_
      refine cift rfl ?_
      refine cskip ?_
      refine nthen ?_
      refine cseq ?_
      refine cblock ?_
      refine cseq ?_
      refine creg ?_
      refine l1 (mvi rfl) ?_
      refine l1 (fa fa37_8 rfl) ?_
      refine l1 (ia ar23 rfl rfl (by decide) (by decide)) ?_
      refine l1 (ldc 0 Try.isAgg22 rfl rfl rfl) ?_
      refine l1 (gtr rfl rfl) ?_
      refine lnil ?_
      refine nthen ?_
      refine cif rfl (fun h3 => ?_) (fun h3 => ?_)
      · skip
        refine cseq ?_
        refine creg ?_
        refine l1 (asgb rfl) ?_
        refine lnil ?_
        refine nthen ?_
        refine cret ?_
        refine nblkR ?_
        refine nthenR ?_
        refine nroundR ?_
        refine nblkR ?_
        refine nthenR ?_
        exact fin1b rfl rfl (by first | rfl | (simp only [rformedH, knowB, rsizeB, firstB, plainB, h1, h2, h3, cond_true, cond_false]; done))
      · skip
        refine cskip ?_
        refine nblkN ?_
        refine nthen ?_
        refine creg ?_
        refine l1 (mvi rfl) ?_
        first | refine l1 (addn rfl rfl (ri (by omega) (by omega))) ?_ | refine l1 (add rfl rfl) ?_
        refine l1 (asgi rfl) ?_
        refine lnil ?_
        refine nround (rsucc ?_)
        refine cseq ?_
        refine cseq ?_
        refine creg ?_
        refine l1 (mvi rfl) ?_
        refine l1 (lss rfl rfl) ?_
        refine lnil ?_
        refine nthen ?_
        refine cift rfl ?_
        refine cskip ?_
        refine nthen ?_
        refine cseq ?_
        refine cblock ?_
        refine cseq ?_
        refine creg ?_
        refine l1 (mvi rfl) ?_
        refine l1 (fa fa37_8 rfl) ?_
        refine l1 (ia ar23 rfl rfl (by decide) (by decide)) ?_
        refine l1 (ldc 0 Try.isAgg22 rfl rfl rfl) ?_
        refine l1 (gtr rfl rfl) ?_
        refine lnil ?_
        refine nthen ?_
        refine cif rfl (fun h4 => ?_) (fun h4 => ?_)
        · skip
          refine cseq ?_
          refine creg ?_
          refine l1 (asgb rfl) ?_
          refine lnil ?_
          refine nthen ?_
          refine cret ?_
          refine nblkR ?_
          refine nthenR ?_
          refine nroundR ?_
          refine nblkR ?_
          refine nthenR ?_
          exact fin1b rfl rfl (by first | rfl | (simp only [rformedH, knowB, rsizeB, firstB, plainB, h1, h2, h3, h4, cond_true, cond_false]; done))
        · skip
          refine cskip ?_
          refine nblkN ?_
          refine nthen ?_
          refine creg ?_
          refine l1 (mvi rfl) ?_
          first | refine l1 (addn rfl rfl (ri (by omega) (by omega))) ?_ | refine l1 (add rfl rfl) ?_
          refine l1 (asgi rfl) ?_
          refine lnil ?_
          refine nround (rsucc ?_)
          refine cseq ?_
          refine cseq ?_
          refine creg ?_
          refine l1 (mvi rfl) ?_
          refine l1 (lss rfl rfl) ?_
          refine lnil ?_
          refine nthen ?_
          refine cift rfl ?_
          refine cskip ?_
          refine nthen ?_
          refine cseq ?_
          refine cblock ?_
          refine cseq ?_
          refine creg ?_
          refine l1 (mvi rfl) ?_
          refine l1 (fa fa37_8 rfl) ?_
          refine l1 (ia ar23 rfl rfl (by decide) (by decide)) ?_
          refine l1 (ldc 0 Try.isAgg22 rfl rfl rfl) ?_
          refine l1 (gtr rfl rfl) ?_
          refine lnil ?_
          refine nthen ?_
          refine cif rfl (fun h5 => ?_) (fun h5 => ?_)
          · skip
            refine cseq ?_
            refine creg ?_
            refine l1 (asgb rfl) ?_
            refine lnil ?_
            refine nthen ?_
            refine cret ?_
            refine nblkR ?_
            refine nthenR ?_
            refine nroundR ?_
            refine nblkR ?_
            refine nthenR ?_
            exact fin1b rfl rfl (by first | rfl | (simp only [rformedH, knowB, rsizeB, firstB, plainB, h1, h2, h3, h4, h5, cond_true, cond_false]; done))
          · skip
            refine cskip ?_
            refine nblkN ?_
            refine nthen ?_
            refine creg ?_
            refine l1 (mvi rfl) ?_
            first | refine l1 (addn rfl rfl (ri (by omega) (by omega))) ?_ | refine l1 (add rfl rfl) ?_
            refine l1 (asgi rfl) ?_
            refine lnil ?_
            refine nround (rsucc ?_)
            refine cseq ?_
            refine cseq ?_
            refine creg ?_
            refine l1 (mvi rfl) ?_
            refine l1 (lss rfl rfl) ?_
            refine lnil ?_
            refine nthen ?_
            refine cift rfl ?_
            refine cskip ?_
            refine nthen ?_
            refine cseq ?_
            refine cblock ?_
            refine cseq ?_
            refine creg ?_
            refine l1 (mvi rfl) ?_
            refine l1 (fa fa37_8 rfl) ?_
            refine l1 (ia ar23 rfl rfl (by decide) (by decide)) ?_
            refine l1 (ldc 0 Try.isAgg22 rfl rfl rfl) ?_
            refine l1 (gtr rfl rfl) ?_
            refine lnil ?_
            refine nthen ?_
            refine cif rfl (fun h6 => ?_) (fun h6 => ?_)
            · skip
              refine cseq ?_
              refine creg ?_
              refine l1 (asgb rfl) ?_
              refine lnil ?_
              refine nthen ?_
              refine cret ?_
              refine nblkR ?_
              refine nthenR ?_
              refine nroundR ?_
              refine nblkR ?_
              refine nthenR ?_
              exact fin1b rfl rfl (by first | rfl | (simp only [rformedH, knowB, rsizeB, firstB, plainB, h1, h2, h3, h4, h5, h6, cond_true, cond_false]; done))
            · skip
              refine cskip ?_
              refine nblkN ?_
              refine nthen ?_
              refine creg ?_
              refine l1 (mvi rfl) ?_
              first | refine l1 (addn rfl rfl (ri (by omega) (by omega))) ?_ | refine l1 (add rfl rfl) ?_
              refine l1 (asgi rfl) ?_
              refine lnil ?_
              refine nround (rsucc ?_)
              refine cseq ?_
              refine cseq ?_
              refine creg ?_
              refine l1 (mvi rfl) ?_
              refine l1 (lss rfl rfl) ?_
              refine lnil ?_
              refine nthen ?_
              refine cift rfl ?_
              refine cskip ?_
              refine nthen ?_
              refine cseq ?_
              refine cblock ?_
              refine cseq ?_
              refine creg ?_
              refine l1 (mvi rfl) ?_
              refine l1 (fa fa37_8 rfl) ?_
              refine l1 (ia ar23 rfl rfl (by decide) (by decide)) ?_
              refine l1 (ldc 0 Try.isAgg22 rfl rfl rfl) ?_
              refine l1 (gtr rfl rfl) ?_
              refine lnil ?_
              refine nthen ?_
              refine cif rfl (fun h7 => ?_) (fun h7 => ?_)
              · skip
                refine cseq ?_
                refine creg ?_
                refine l1 (asgb rfl) ?_
                refine lnil ?_
                refine nthen ?_
                refine cret ?_
                refine nblkR ?_
                refine nthenR ?_
                refine nroundR ?_
                refine nblkR ?_
                refine nthenR ?_
                exact fin1b rfl rfl (by first | rfl | (simp only [rformedH, knowB, rsizeB, firstB, plainB, h1, h2, h3, h4, h5, h6, h7, cond_true, cond_false]; done))
              · skip
                refine cskip ?_
                refine nblkN ?_
                refine nthen ?_
                refine creg ?_
                refine l1 (mvi rfl) ?_
                first | refine l1 (addn rfl rfl (ri (by omega) (by omega))) ?_ | refine l1 (add rfl rfl) ?_
                refine l1 (asgi rfl) ?_
                refine lnil ?_
                refine nround (rsucc ?_)
                refine cseq ?_
                refine cseq ?_
                refine creg ?_
                refine l1 (mvi rfl) ?_
                refine l1 (lss rfl rfl) ?_
                refine lnil ?_
                refine nthen ?_
                refine ciff rfl ?_
                refine cexit ?_
                refine nthenE ?_
                refine nroundE ?_
                refine nblkE ?_
                refine nthen ?_
                refine cseq ?_
                refine cregq mo (by kernel_rfl) ?_
                refine q1 (fa fa37_10 rfl) ?_
                refine q1 (ldc 0 Try.isAgg3 rfl rfl rfl) ?_
                refine q1 (geq rfl rfl) ?_
                refine q1 (mvb rfl) ?_
                refine q1g rfl (gwt rfl) (fun h => fa fa37_10 rfl) ?_
                refine q1g rfl (gwt rfl) (fun h => ldc 0 Try.isAgg3 rfl (gvt h) rfl) ?_
                refine q1g rfl (gwt rfl) (fun h => leq (gvt h) rfl) ?_
                refine q1 (pk_and rfl rfl rfl) ?_
                refine q1 (mvb rfl) ?_
                refine q1g rfl (gwt rfl) (fun h => fa fa37_10 rfl) ?_
                refine q1g rfl (gwt rfl) (fun h => ldc 0 Try.isAgg3 rfl (gvt h) rfl) ?_
                refine q1g rfl (gwt rfl) (fun h => subn (gvt h) rfl (ri (by first | omega | (simp at h; omega)) (by first | omega | (simp at h; omega)))) ?_
                refine q1g rfl (gwt rfl) (fun h => cl hb111 rfl (mc (gvt h) mn) (fun w hw => rbucket_calls _ w)) ?_
                refine q1g rfl (gwt rfl) (fun h => fa fa37_10 rfl) ?_
                refine q1g rfl (gwt rfl) (fun h => ldc 0 Try.isAgg3 rfl (gvt h) rfl) ?_
                refine q1g rfl (gwt rfl) (fun h => subn (gvt h) rfl (ri (by first | omega | (simp at h; omega)) (by first | omega | (simp at h; omega)))) ?_
                refine q1g rfl (gwt rfl) (fun h => eql (gvt h) (gvt h)) ?_
                refine q1 (pk_and rfl rfl rfl) ?_
                refine q1 (asgb rfl) ?_
                refine qnil ?_
                refine nthen ?_
                refine cseq ?_
                refine creg ?_
                refine l1 (fa fa37_1 rfl) ?_
                refine l1 (ldc 0 Try.isAgg22 rfl rfl rfl) ?_
                refine l1 (gtr rfl rfl) ?_
                refine l1 (mvb rfl) ?_
                refine l1g rfl (gwf rfl) (fun h => fa fa37_2 rfl) ?_
                refine l1g rfl (gwf rfl) (fun h => lda 0 Try.isAgg32 Try.sizeOf32 rfl (gvt h) (encH_prev _) rfl) ?_
                refine l1g rfl (gwf rfl) (fun h => bld0 bk32z) ?_
                refine l1g rfl (gwf rfl) (fun h => eqla (gvt h) (gvt h) (fun w => eql32 _ _ w)) ?_
                refine l1 (pk_or rfl rfl rfl) ?_
                refine l1 (asgb rfl) ?_
                refine lnil ?_
                refine nthen ?_
                refine cseq ?_
                refine creg ?_
                refine l1 (fa fa37_4 rfl) ?_
                refine l1 (ldc 0 Try.isAgg4 rfl rfl rfl) ?_
                refine l1 (nt rfl) ?_
                refine l1 (mvb rfl) ?_
                refine l1g rfl (gwf rfl) (fun h => fa fa37_7 rfl) ?_
                refine l1g rfl (gwf rfl) (fun h => ldc 0 Try.isAgg35 rfl (gvt h) rfl) ?_
                refine l1g rfl (gwf rfl) (fun h => lens sl35 rfl (gvt h)) ?_
                refine l1g rfl (gwf rfl) (fun h => eql (gvt h) rfl) ?_
                refine l1g rfl (gwf rfl) (fun h => mvb (gvt h)) ?_
                refine l1g rfl (ggt rfl) (fun h => fa fa37_6 rfl) ?_
                refine l1g rfl (ggt rfl) (fun h => lda 0 Try.isAgg34 Try.sizeOf34 rfl (gvt h) (encH_item _) rfl) ?_
                refine l1g rfl (ggt rfl) (fun h => bld0 bk34z) ?_
                refine l1g rfl (ggt rfl) (fun h => eqla (gvt h) (gvt h) (fun w => eql34 _ _ w)) ?_
                refine l1g rfl (gwf rfl) (fun h => pk_and (gvt h) (gva h) rfl) ?_
                refine l1 (pk_or rfl rfl rfl) ?_
                refine l1 (asgb rfl) ?_
                refine lnil ?_
                refine nthen ?_
                refine cseq ?_
                refine cregq mo (by kernel_rfl) ?_
                refine q1 (mvb rfl) ?_
                refine q1 (mvb rfl) ?_
                refine q1g rfl (gwt rfl) (fun h => mvb rfl) ?_
                refine q1 (pk_and rfl rfl rfl) ?_
                refine q1 (mvb rfl) ?_
                refine q1g rfl (gwt rfl) (fun h => mvb rfl) ?_
                refine q1 (pk_and rfl rfl rfl) ?_
                refine q1 (mvb rfl) ?_
                refine q1g rfl (gwt rfl) (fun h => fa fa37_0 rfl) ?_
                refine q1g rfl (gwt rfl) (fun h => ldc 0 Try.isAgg3 rfl (gvt h) rfl) ?_
                refine q1g rfl (gwt rfl) (fun h => subn (gvt h) rfl (ri (by omega) (by omega))) ?_
                refine q1g rfl (gwt rfl) (fun h => fa fa37_8 rfl) ?_
                refine q1g rfl (gwt rfl) (fun h => ia ar23 (gvt h) (gvt h) (by omega) (by omega)) ?_
                refine q1g rfl (gwt rfl) (fun h => ldc 0 Try.isAgg22 rfl (gvt h) (encH_know _ _ (by omega))) ?_
                refine q1g rfl (gwt rfl) (fun h => fa fa37_1 rfl) ?_
                refine q1g rfl (gwt rfl) (fun h => ldc 0 Try.isAgg22 rfl (gvt h) rfl) ?_
                refine q1g rfl (gwt rfl) (fun h => subn (gvt h) rfl (ru (by omega) (by omega))) ?_
                refine q1g rfl (gwt rfl) (fun h => eql (gvt h) (gvt h)) ?_
                refine q1 (pk_and rfl rfl rfl) ?_
                refine q1 (asgb rfl) ?_
                refine qnil ?_
                refine nthen ?_
                refine cret ?_
                exact fin1b rfl rfl (by first | rfl | (simp only [rformedH, knowB, rsizeB, firstB, plainB, h1, h2, h3, h4, h5, h6, h7, cond_true, cond_false]; done))
end Go.Proofs.Ytkdbjhlkahkobaa
/- walks, printed by a program of ours -/
namespace Go.Proofs.Ytkdbjhlkahkobaa
open Jal Go.RowKit
set_option maxRecDepth 100000
def readyH (v : Vec) (x : Hd) : Bool := (formedH x && decide (v (x.writer - 1).toNat = x.seq - 1)) && greatV v x.knows
def rreadyH (v : Vec) (x : Hd) : Bool := bif (!rformedH x || decide (addU (v (x.writer - 1).toNat) 1 ≠ x.seq)) then false else rgreatV v x.knows
theorem vec_at (v : Vec) (i : Nat) (h : i < 6) : (encV v)[0 + i * 1]? = some (.int .u64 (v i)) := by
  have := encV_get v i h; simpa using this

theorem ready_calls (v : Vec) (x : Hd) (w : World) (hx : HdIn w x) (kx : HdOk x) : Calls Try.prog 38 #[.agg (encV v).toArray, .agg (encH x).toArray] w (Ret (.bool (readyH v x)) w) := by
  refine fn_calls (n := 24) Try.func38 rfl rfl (lb rfl) ?_
  refine cseq ?_
  refine creg ?_
  refine lbxa rfl (fun b1 => ?_)
  refine lbxa rfl (fun b2 => ?_)
  refine l1 (asgb rfl) ?_
  refine lnil ?_
  refine nthen ?_
  refine cseq ?_
  refine cregq mo (by kernel_rfl) ?_
  refine q1 (ldw 1 Try.isAgg37 Try.sizeOf37 rfl rfl rfl) ?_
  refine q1 (cl hb76 rfl (mc rfl mn) (fun w hw => hformed_calls _ w (Sl.keptS hx hw) kx)) ?_
  refine q1 (mvb rfl) ?_
  refine q1g rfl (gwt rfl) (fun h => fa fa37_0 rfl) ?_
  refine q1g rfl (gwt rfl) (fun h => ldc 1 Try.isAgg3 rfl (gvt h) rfl) ?_
  refine q1g rfl (gwt rfl) (fun h => subn (gvt h) rfl (ri (by have := formed_w h; omega) (by have := formed_w h; omega))) ?_
  refine q1g rfl (gwt rfl) (fun h => ia ar24 rfl (gvt h) (by have := formed_w h; omega) (by have := formed_w h; omega)) ?_
  refine q1g rfl (gwt rfl) (fun h => ldc 0 Try.isAgg22 rfl (gvt h) (vec_at _ _ (by have := formed_w h; omega))) ?_
  refine q1g rfl (gwt rfl) (fun h => fa fa37_1 rfl) ?_
  refine q1g rfl (gwt rfl) (fun h => ldc 1 Try.isAgg22 rfl (gvt h) rfl) ?_
  refine q1g rfl (gwt rfl) (fun h => subn (gvt h) rfl (ru (by have := formed_w h; omega) (by have := formed_w h; omega))) ?_
  refine q1g rfl (gwt rfl) (fun h => eql (gvt h) (gvt h)) ?_
  refine q1 (pk_and rfl rfl rfl) ?_
  refine q1 (mvb rfl) ?_
  refine q1g rfl (gwt rfl) (fun h => ldw 0 Try.isAgg24 Try.sizeOf24 rfl rfl rfl) ?_
  refine q1g rfl (gwt rfl) (fun h => fa fa37_8 rfl) ?_
  refine q1g rfl (gwt rfl) (fun h => lda 1 Try.isAgg23 Try.sizeOf23 rfl (gvt h) (encH_knows _) rfl) ?_
  refine q1g rfl (gwt rfl) (fun h => cl hb23 rfl (mc (gvt h) (mc (gvt h) mn)) (fun w hw => great_calls _ _ w)) ?_
  refine q1 (pk_and rfl rfl rfl) ?_
  refine q1 (asgb rfl) ?_
  refine qnil ?_
  refine nthen ?_
  refine cret ?_
  exact fin1 rfl rfl

theorem rformed_w {x : Hd} (h : rformedH x = true) : 1 ≤ x.writer ∧ x.writer ≤ 6 ∧ 1 ≤ x.seq ∧ x.seq ≤ 1048576 := by
  apply rplc_no
  cases hp : rplcB x with
  | false => rfl
  | true => simp [rformedH, hp] at h

theorem rready_calls (v : Vec) (x : Hd) (w : World) (hx : HdIn w x) (kx : HdOk x) : Calls Try.prog 39 #[.agg (encV v).toArray, .agg (encH x).toArray] w (Ret (.bool (rreadyH v x)) w) := by
  refine fn_calls (n := 32) Try.func39 rfl rfl (lb rfl) ?_
  refine cseq ?_
  refine creg ?_
  refine lbxa rfl (fun b1 => ?_)
  refine lbxa rfl (fun b2 => ?_)
  refine l1 (asgb rfl) ?_
  refine lnil ?_
  refine nthen ?_
  refine cseq ?_
  refine cseq ?_
  refine cregq mo (by kernel_rfl) ?_
  refine q1 (ldw 1 Try.isAgg37 Try.sizeOf37 rfl rfl rfl) ?_
  refine q1 (cl hb77 rfl (mc rfl mn) (fun w hw => rformed_calls _ w (Sl.keptS hx hw) kx)) ?_
  refine q1 (nt rfl) ?_
  refine q1 (mvb rfl) ?_
  refine q1g rfl (gwf rfl) (fun h => fa fa37_0 rfl) ?_
  refine q1g rfl (gwf rfl) (fun h => ldc 1 Try.isAgg3 rfl (gvt h) rfl) ?_
  refine q1g rfl (gwf rfl) (fun h => subn (gvt h) rfl (ri (by have := rformed_w (by simpa using h); omega) (by have := rformed_w (by simpa using h); omega))) ?_
  refine q1g rfl (gwf rfl) (fun h => ia ar24 rfl (gvt h) (by have := rformed_w (by simpa using h); omega) (by have := rformed_w (by simpa using h); omega)) ?_
  refine q1g rfl (gwf rfl) (fun h => ldc 0 Try.isAgg22 rfl (gvt h) (vec_at _ _ (by have := rformed_w (by simpa using h); omega))) ?_
  refine q1g rfl (gwf rfl) (fun h => add (gvt h) rfl) ?_
  refine q1g rfl (gwf rfl) (fun h => fa fa37_1 rfl) ?_
  refine q1g rfl (gwf rfl) (fun h => ldc 1 Try.isAgg22 rfl (gvt h) rfl) ?_
  refine q1g rfl (gwf rfl) (fun h => neq (gvt h) (gvt h)) ?_
  refine q1 (pk_or rfl rfl rfl) ?_
  refine qnil ?_
  refine nthen ?_
  refine cif rfl (fun h1 => ?_) (fun h1 => ?_)
  · change (!rformedH x || decide (addU (v (x.writer - 1).toNat) 1 ≠ x.seq)) = _ at h1
    refine cseq ?_
    refine creg ?_
    refine l1 (asgb rfl) ?_
    refine lnil ?_
    refine nthen ?_
    refine cret ?_
    refine nthenR ?_
    exact fin1b rfl rfl (by first | rfl | (simp only [rreadyH, rgreatV, h1, cond_true, cond_false]; done))
  · change (!rformedH x || decide (addU (v (x.writer - 1).toNat) 1 ≠ x.seq)) = _ at h1
    refine cskip ?_
    refine nthen ?_
    refine cseq ?_
    refine cseq ?_
    refine creg ?_
    refine l1 (asgi rfl) ?_
    refine lnil ?_
    refine nthen ?_
    refine cblock ?_
    refine cloopN 7 ?_
    refine rsucc ?_
    refine cseq ?_
    refine cseq ?_
    refine creg ?_
    refine l1 (mvi rfl) ?_
    refine l1 (lss rfl rfl) ?_
    refine lnil ?_
    refine nthen ?_
    refine cift rfl ?_
    refine cskip ?_
    refine nthen ?_
    refine cseq ?_
    refine cblock ?_
    refine cseq ?_
    refine cregq mo (by kernel_rfl) ?_
    refine q1 (mvi rfl) ?_
    refine q1 (ia ar24 rfl rfl (by decide) (by decide)) ?_
    refine q1 (ldc 0 Try.isAgg22 rfl rfl rfl) ?_
    refine q1 (mvi rfl) ?_
    refine q1 (fa fa37_8 rfl) ?_
    refine q1 (ia ar23 rfl rfl (by decide) (by decide)) ?_
    refine q1 (ldc 1 Try.isAgg22 rfl rfl rfl) ?_
    refine q1 (lss rfl rfl) ?_
    refine qnil ?_
    refine nthen ?_
    refine cif rfl (fun h2 => ?_) (fun h2 => ?_)
    · skip
      refine cseq ?_
      refine creg ?_
      refine l1 (asgb rfl) ?_
      refine lnil ?_
      refine nthen ?_
      refine cret ?_
      refine nblkR ?_
      refine nthenR ?_
      refine nroundR ?_
      refine nblkR ?_
      refine nthenR ?_
      exact fin1b rfl rfl (by first | rfl | (simp only [rreadyH, rgreatV, h1, h2, cond_true, cond_false]; done))
    · skip
      refine cskip ?_
      refine nblkN ?_
      refine nthen ?_
      refine creg ?_
      refine l1 (mvi rfl) ?_
      first | refine l1 (addn rfl rfl (ri (by omega) (by omega))) ?_ | refine l1 (add rfl rfl) ?_
      refine l1 (asgi rfl) ?_
      refine lnil ?_
      refine nround (rsucc ?_)
      refine cseq ?_
      refine cseq ?_
      refine creg ?_
      refine l1 (mvi rfl) ?_
      refine l1 (lss rfl rfl) ?_
      refine lnil ?_
      refine nthen ?_
      refine cift rfl ?_
      refine cskip ?_
      refine nthen ?_
      refine cseq ?_
      refine cblock ?_
      refine cseq ?_
      refine cregq mo (by kernel_rfl) ?_
      refine q1 (mvi rfl) ?_
      refine q1 (ia ar24 rfl rfl (by decide) (by decide)) ?_
      refine q1 (ldc 0 Try.isAgg22 rfl rfl rfl) ?_
      refine q1 (mvi rfl) ?_
      refine q1 (fa fa37_8 rfl) ?_
      refine q1 (ia ar23 rfl rfl (by decide) (by decide)) ?_
      refine q1 (ldc 1 Try.isAgg22 rfl rfl rfl) ?_
      refine q1 (lss rfl rfl) ?_
      refine qnil ?_
      refine nthen ?_
      refine cif rfl (fun h3 => ?_) (fun h3 => ?_)
      · skip
        refine cseq ?_
        refine creg ?_
        refine l1 (asgb rfl) ?_
        refine lnil ?_
        refine nthen ?_
        refine cret ?_
        refine nblkR ?_
        refine nthenR ?_
        refine nroundR ?_
        refine nblkR ?_
        refine nthenR ?_
        exact fin1b rfl rfl (by first | rfl | (simp only [rreadyH, rgreatV, h1, h2, h3, cond_true, cond_false]; done))
      · skip
        refine cskip ?_
        refine nblkN ?_
        refine nthen ?_
        refine creg ?_
        refine l1 (mvi rfl) ?_
        first | refine l1 (addn rfl rfl (ri (by omega) (by omega))) ?_ | refine l1 (add rfl rfl) ?_
        refine l1 (asgi rfl) ?_
        refine lnil ?_
        refine nround (rsucc ?_)
        refine cseq ?_
        refine cseq ?_
        refine creg ?_
        refine l1 (mvi rfl) ?_
        refine l1 (lss rfl rfl) ?_
        refine lnil ?_
        refine nthen ?_
        refine cift rfl ?_
        refine cskip ?_
        refine nthen ?_
        refine cseq ?_
        refine cblock ?_
        refine cseq ?_
        refine cregq mo (by kernel_rfl) ?_
        refine q1 (mvi rfl) ?_
        refine q1 (ia ar24 rfl rfl (by decide) (by decide)) ?_
        refine q1 (ldc 0 Try.isAgg22 rfl rfl rfl) ?_
        refine q1 (mvi rfl) ?_
        refine q1 (fa fa37_8 rfl) ?_
        refine q1 (ia ar23 rfl rfl (by decide) (by decide)) ?_
        refine q1 (ldc 1 Try.isAgg22 rfl rfl rfl) ?_
        refine q1 (lss rfl rfl) ?_
        refine qnil ?_
        refine nthen ?_
        refine cif rfl (fun h4 => ?_) (fun h4 => ?_)
        · skip
          refine cseq ?_
          refine creg ?_
          refine l1 (asgb rfl) ?_
          refine lnil ?_
          refine nthen ?_
          refine cret ?_
          refine nblkR ?_
          refine nthenR ?_
          refine nroundR ?_
          refine nblkR ?_
          refine nthenR ?_
          exact fin1b rfl rfl (by first | rfl | (simp only [rreadyH, rgreatV, h1, h2, h3, h4, cond_true, cond_false]; done))
        · skip
          refine cskip ?_
          refine nblkN ?_
          refine nthen ?_
          refine creg ?_
          refine l1 (mvi rfl) ?_
          first | refine l1 (addn rfl rfl (ri (by omega) (by omega))) ?_ | refine l1 (add rfl rfl) ?_
          refine l1 (asgi rfl) ?_
          refine lnil ?_
          refine nround (rsucc ?_)
          refine cseq ?_
          refine cseq ?_
          refine creg ?_
          refine l1 (mvi rfl) ?_
          refine l1 (lss rfl rfl) ?_
          refine lnil ?_
          refine nthen ?_
          refine cift rfl ?_
          refine cskip ?_
          refine nthen ?_
          refine cseq ?_
          refine cblock ?_
          refine cseq ?_
          refine cregq mo (by kernel_rfl) ?_
          refine q1 (mvi rfl) ?_
          refine q1 (ia ar24 rfl rfl (by decide) (by decide)) ?_
          refine q1 (ldc 0 Try.isAgg22 rfl rfl rfl) ?_
          refine q1 (mvi rfl) ?_
          refine q1 (fa fa37_8 rfl) ?_
          refine q1 (ia ar23 rfl rfl (by decide) (by decide)) ?_
          refine q1 (ldc 1 Try.isAgg22 rfl rfl rfl) ?_
          refine q1 (lss rfl rfl) ?_
          refine qnil ?_
          refine nthen ?_
          refine cif rfl (fun h5 => ?_) (fun h5 => ?_)
          · skip
            refine cseq ?_
            refine creg ?_
            refine l1 (asgb rfl) ?_
            refine lnil ?_
            refine nthen ?_
            refine cret ?_
            refine nblkR ?_
            refine nthenR ?_
            refine nroundR ?_
            refine nblkR ?_
            refine nthenR ?_
            exact fin1b rfl rfl (by first | rfl | (simp only [rreadyH, rgreatV, h1, h2, h3, h4, h5, cond_true, cond_false]; done))
          · skip
            refine cskip ?_
            refine nblkN ?_
            refine nthen ?_
            refine creg ?_
            refine l1 (mvi rfl) ?_
            first | refine l1 (addn rfl rfl (ri (by omega) (by omega))) ?_ | refine l1 (add rfl rfl) ?_
            refine l1 (asgi rfl) ?_
            refine lnil ?_
            refine nround (rsucc ?_)
            refine cseq ?_
            refine cseq ?_
            refine creg ?_
            refine l1 (mvi rfl) ?_
            refine l1 (lss rfl rfl) ?_
            refine lnil ?_
            refine nthen ?_
            refine cift rfl ?_
            refine cskip ?_
            refine nthen ?_
            refine cseq ?_
            refine cblock ?_
            refine cseq ?_
            refine cregq mo (by kernel_rfl) ?_
            refine q1 (mvi rfl) ?_
            refine q1 (ia ar24 rfl rfl (by decide) (by decide)) ?_
            refine q1 (ldc 0 Try.isAgg22 rfl rfl rfl) ?_
            refine q1 (mvi rfl) ?_
            refine q1 (fa fa37_8 rfl) ?_
            refine q1 (ia ar23 rfl rfl (by decide) (by decide)) ?_
            refine q1 (ldc 1 Try.isAgg22 rfl rfl rfl) ?_
            refine q1 (lss rfl rfl) ?_
            refine qnil ?_
            refine nthen ?_
            refine cif rfl (fun h6 => ?_) (fun h6 => ?_)
            · skip
              refine cseq ?_
              refine creg ?_
              refine l1 (asgb rfl) ?_
              refine lnil ?_
              refine nthen ?_
              refine cret ?_
              refine nblkR ?_
              refine nthenR ?_
              refine nroundR ?_
              refine nblkR ?_
              refine nthenR ?_
              exact fin1b rfl rfl (by first | rfl | (simp only [rreadyH, rgreatV, h1, h2, h3, h4, h5, h6, cond_true, cond_false]; done))
            · skip
              refine cskip ?_
              refine nblkN ?_
              refine nthen ?_
              refine creg ?_
              refine l1 (mvi rfl) ?_
              first | refine l1 (addn rfl rfl (ri (by omega) (by omega))) ?_ | refine l1 (add rfl rfl) ?_
              refine l1 (asgi rfl) ?_
              refine lnil ?_
              refine nround (rsucc ?_)
              refine cseq ?_
              refine cseq ?_
              refine creg ?_
              refine l1 (mvi rfl) ?_
              refine l1 (lss rfl rfl) ?_
              refine lnil ?_
              refine nthen ?_
              refine cift rfl ?_
              refine cskip ?_
              refine nthen ?_
              refine cseq ?_
              refine cblock ?_
              refine cseq ?_
              refine cregq mo (by kernel_rfl) ?_
              refine q1 (mvi rfl) ?_
              refine q1 (ia ar24 rfl rfl (by decide) (by decide)) ?_
              refine q1 (ldc 0 Try.isAgg22 rfl rfl rfl) ?_
              refine q1 (mvi rfl) ?_
              refine q1 (fa fa37_8 rfl) ?_
              refine q1 (ia ar23 rfl rfl (by decide) (by decide)) ?_
              refine q1 (ldc 1 Try.isAgg22 rfl rfl rfl) ?_
              refine q1 (lss rfl rfl) ?_
              refine qnil ?_
              refine nthen ?_
              refine cif rfl (fun h7 => ?_) (fun h7 => ?_)
              · skip
                refine cseq ?_
                refine creg ?_
                refine l1 (asgb rfl) ?_
                refine lnil ?_
                refine nthen ?_
                refine cret ?_
                refine nblkR ?_
                refine nthenR ?_
                refine nroundR ?_
                refine nblkR ?_
                refine nthenR ?_
                exact fin1b rfl rfl (by first | rfl | (simp only [rreadyH, rgreatV, h1, h2, h3, h4, h5, h6, h7, cond_true, cond_false]; done))
              · skip
                refine cskip ?_
                refine nblkN ?_
                refine nthen ?_
                refine creg ?_
                refine l1 (mvi rfl) ?_
                first | refine l1 (addn rfl rfl (ri (by omega) (by omega))) ?_ | refine l1 (add rfl rfl) ?_
                refine l1 (asgi rfl) ?_
                refine lnil ?_
                refine nround (rsucc ?_)
                refine cseq ?_
                refine cseq ?_
                refine creg ?_
                refine l1 (mvi rfl) ?_
                refine l1 (lss rfl rfl) ?_
                refine lnil ?_
                refine nthen ?_
                refine ciff rfl ?_
                refine cexit ?_
                refine nthenE ?_
                refine nroundE ?_
                refine nblkE ?_
                refine nthen ?_
                refine cseq ?_
                refine creg ?_
                refine l1 (asgb rfl) ?_
                refine lnil ?_
                refine nthen ?_
                refine cret ?_
                exact fin1b rfl rfl (by first | rfl | (simp only [rreadyH, rgreatV, h1, h2, h3, h4, h5, h6, h7, cond_true, cond_false]; done))

theorem isB_iff {n : Int} (hn : I64 n) : isB n = true ↔ n = 64 ∨ n = 128 ∨ n = 256 ∨ n = 512 ∨ n = 1024 ∨ n = 2048 := by
  by_cases h : n = -9223372036854775808
  · subst h; decide
  have hw : IntKind.i64.wrap (n - 1) = n - 1 := ri (by have := hn.1; omega) (by have := hn.2; omega)
  unfold isB bucketE bucketB
  rw [hw]
  simp only [cond_eq_ite, decide_eq_true_eq, Bool.and_eq_true]
  by_cases h0 : n - 1 < 0
  · simp [h0]; omega
  by_cases h1 : n - 1 < 64
  · simp [h0, h1]; omega
  by_cases h2 : n - 1 < 128
  · simp [h0, h1, h2]; omega
  by_cases h3 : n - 1 < 256
  · simp [h0, h1, h2, h3]; omega
  by_cases h4 : n - 1 < 512
  · simp [h0, h1, h2, h3, h4]; omega
  by_cases h5 : n - 1 < 1024
  · simp [h0, h1, h2, h3, h4, h5]; omega
  by_cases h6 : n - 1 < 2048
  · simp [h0, h1, h2, h3, h4, h5, h6]; omega
  · simp [h0, h1, h2, h3, h4, h5, h6]; omega
theorem rsize_iff {x : Hd} : rsizeB x = true ↔ x.size - 16 = 64 ∨ x.size - 16 = 128 ∨ x.size - 16 = 256 ∨ x.size - 16 = 512 ∨ x.size - 16 = 1024 ∨ x.size - 16 = 2048 := by
  unfold rsizeB rbucketB
  simp only [cond_eq_ite, decide_eq_true_eq, Bool.and_eq_true]
  by_cases h1 : x.size - 17 < 64
  · simp [h1]; omega
  by_cases h2 : x.size - 17 < 128
  · simp [h1, h2]; omega
  by_cases h3 : x.size - 17 < 256
  · simp [h1, h2, h3]; omega
  by_cases h4 : x.size - 17 < 512
  · simp [h1, h2, h3, h4]; omega
  by_cases h5 : x.size - 17 < 1024
  · simp [h1, h2, h3, h4, h5]; omega
  by_cases h6 : x.size - 17 < 2048
  · simp [h1, h2, h3, h4, h5, h6]; omega
  · simp [h1, h2, h3, h4, h5, h6]; omega
theorem wrap16 {s : Int} (h : I64 s) : IntKind.i64.wrap (s - 16) = s - 16 ∨ (IntKind.i64.wrap (s - 16) > 100000 ∧ s < 0 ∧ I64 (IntKind.i64.wrap (s - 16))) := by
  obtain ⟨h1, h2⟩ := h
  unfold I64
  simp only [IntKind.wrap, IntKind.signed, IntKind.bits]
  simp
  omega
theorem size_eq {x : Hd} (h : I64 x.size) : isB (IntKind.i64.wrap (x.size - 16)) = rsizeB x := by
  apply Bool.eq_iff_iff.2
  rw [rsize_iff]
  rcases wrap16 h with hw | ⟨hw, hn, hi⟩
  · by_cases hs : -9223372036854775808 ≤ x.size - 16
    · rw [hw, isB_iff ⟨hs, by have := h.2; omega⟩]
    · exfalso
      have h1 : -9223372036854775808 ≤ IntKind.i64.wrap (x.size - 16) := by simp [IntKind.wrap, IntKind.signed, IntKind.bits]; omega
      rw [hw] at h1; exact hs h1
  · rw [isB_iff hi]; omega
theorem rformed_eq {x : Hd} (h : I64 x.size) : rformedH x = formedH x := by
  have hs := size_eq h
  unfold rformedH formedH placedB plcB rplcB knowB
  rw [hs]
  generalize sortedT x.tn x.tok = so
  generalize rsizeB x = rs
  generalize firstB x = fi
  generalize plainB x = pl
  generalize decide (x.writer < 1) = a1
  generalize decide (x.writer > 6) = a2
  generalize decide (x.seq < 1) = a3
  generalize decide (x.seq > 1048576) = a4
  generalize decide (x.epoch < 0) = a5
  generalize decide (x.epoch > 255) = a6
  generalize decide (x.time > 1099511627776) = a7
  generalize decide ((x.tn : Int) > 8) = a8
  generalize decide (x.knows 0 > 1048576) = k0
  generalize decide (x.knows 1 > 1048576) = k1
  generalize decide (x.knows 2 > 1048576) = k2
  generalize decide (x.knows 3 > 1048576) = k3
  generalize decide (x.knows 4 > 1048576) = k4
  generalize decide (x.knows 5 > 1048576) = k5
  have e : decide (x.knows (x.writer - 1).toNat ≠ x.seq - 1) = !decide (x.knows (x.writer - 1).toNat = x.seq - 1) := by simp
  rw [e]
  generalize decide (x.knows (x.writer - 1).toNat = x.seq - 1) = q
  cases a1 <;> cases a2 <;> cases a3 <;> cases a4 <;> cases a5 <;> cases a6 <;> cases a7 <;> try rfl
  cases a8 <;> cases so <;> cases q <;> cases k0 <;> cases k1 <;> cases k2 <;> cases k3 <;> cases k4 <;> cases k5 <;> cases fi <;> cases pl <;> cases rs <;> rfl
theorem rready_eq (v : Vec) (x : Hd) (hv : ∀ i, i < 6 → U64 (v i)) (kx : HdOk x) : rreadyH v x = readyH v x := by
  unfold rreadyH readyH
  rw [rformed_eq kx.z, rgreat_eq]
  cases hf : formedH x with
  | false => rfl
  | true =>
    have hw := formed_w hf
    have hu := hv (x.writer - 1).toNat (by omega)
    have e : decide (addU (v (x.writer - 1).toNat) 1 ≠ x.seq) = !decide (v (x.writer - 1).toNat = x.seq - 1) := by
      have hu1 := hu.1; have hu2 := hu.2
      by_cases h : v (x.writer - 1).toNat = 18446744073709551615
      · rw [h]
        have h0 : addU 18446744073709551615 1 = 0 := by decide
        rw [h0]
        simp; omega
      · rw [addU_small (by omega) (by omega)]
        apply Bool.eq_iff_iff.2
        rw [Bool.not_eq_true', decide_eq_true_eq, decide_eq_false_iff_not]
        omega
    rw [e]
    cases decide (v (x.writer - 1).toNat = x.seq - 1) <;> rfl

set_option maxHeartbeats 1000000 in
theorem ready_law (v : Vec) (hv : ∀ i, i < 6 → U64 (v i)) (x : Hd) (w : World) (hx : HdIn w x) (kx : HdOk x) : Calls Try.prog 9 #[.agg (encV v).toArray, .agg (encH x).toArray] w (Ret (.bool true) w) := by
  refine fn_calls (n := 21) Try.func9 rfl rfl (lb rfl) ?_
  refine cseq ?_
  refine creg ?_
  refine lbxa rfl (fun b1 => ?_)
  refine lbxa rfl (fun b2 => ?_)
  refine l1 (asgb rfl) ?_
  refine lnil ?_
  refine nthen ?_
  refine cseq ?_
  refine cregq mo (by kernel_rfl) ?_
  refine q1 (cl hb24 rfl mn (fun w hw => awake14_calls w)) ?_
  refine q1 (mvb rfl) ?_
  refine q1g rfl (gwt rfl) (fun h => fa fa37_7 rfl) ?_
  refine q1g rfl (gwt rfl) (fun h => ldc 1 Try.isAgg35 rfl (gvt h) rfl) ?_
  refine q1g rfl (gwt rfl) (fun h => lens sl35 rfl (gvt h)) ?_
  refine q1g rfl (gwt rfl) (fun h => gtr (gvt h) rfl) ?_
  refine q1g rfl (gwt rfl) (fun h => mvb (gvt h)) ?_
  refine q1g rfl (ggf rfl) (fun h => ldw 0 Try.isAgg24 Try.sizeOf24 rfl rfl rfl) ?_
  refine q1g rfl (ggf rfl) (fun h => ldw 1 Try.isAgg37 Try.sizeOf37 rfl rfl rfl) ?_
  refine q1g rfl (ggf rfl) (fun h => cl hb38 rfl (mc (gvt h) (mc (gvt h) mn)) (fun w hw => ready_calls _ _ w (Sl.keptS hx hw) kx)) ?_
  refine q1g rfl (ggf rfl) (fun h => ldw 0 Try.isAgg24 Try.sizeOf24 rfl rfl rfl) ?_
  refine q1g rfl (ggf rfl) (fun h => ldw 1 Try.isAgg37 Try.sizeOf37 rfl rfl rfl) ?_
  refine q1g rfl (ggf rfl) (fun h => cl hb39 rfl (mc (gvt h) (mc (gvt h) mn)) (fun w hw => rready_calls _ _ w (Sl.keptS hx hw) kx)) ?_
  refine q1g rfl (ggf rfl) (fun h => eqlb Try.underlying4 (gvt h) (gvt h)) ?_
  refine q1g rfl (gwt rfl) (fun h => pk_or (gvt h) rfl (gva h)) ?_
  refine q1 (pk_and rfl rfl rfl) ?_
  refine q1 (asgb rfl) ?_
  refine qnil ?_
  refine nthen ?_
  refine cret ?_
  exact fin1b rfl rfl (by rw [rready_eq v x hv kx]; simp)
end Go.Proofs.Ytkdbjhlkahkobaa
/- the order in which entries come: plain laws -/
namespace Go.Proofs.Ytkdbjhlkahkobaa
open Jal Go.RowKit
set_option maxRecDepth 100000
def minL (m : Hd) (l : List Hd) : Hd := l.foldl (fun m x => bif decide (firstH x m < 0) then x else m) m
def pick (hs : List Hd) (v : Vec) : Option Hd :=
  match hs.filter (readyH v) with
  | [] => none
  | h :: t => some (minL h t)
def putV (v : Vec) (h : Hd) : Vec := ui v (h.writer - 1).toNat h.seq
def core (h : Hd) : Hd := { h with tp := none, tc := 0 }
inductive Path (hs : List Hd) (v : Vec) : List Hd → Vec → Prop
  | nil : Path hs v [] v
  | snoc {O : List Hd} {v' : Vec} {h o : Hd} : Path hs v O v' → pick hs v' = some h → core o = core h → Path hs v (O ++ [o]) (putV v' h)
theorem or2_neg {a b : Int} : or2 a b < 0 ↔ a < 0 ∨ a = 0 ∧ b < 0 := by
  unfold or2
  simp only [cond_eq_ite, decide_eq_true_eq]
  by_cases ha : a = 0 <;> by_cases hb : b = 0 <;> simp [ha, hb] <;> omega
theorem cmpI_neg {a b : Int} : cmpI a b < 0 ↔ a < b := by
  unfold cmpI
  simp only [cond_eq_ite, decide_eq_true_eq]
  by_cases h1 : a < b <;> by_cases h2 : a > b <;> simp [h1, h2] <;> omega
theorem first_iff {a b : Hd} : firstH a b < 0 ↔ a.time < b.time ∨ a.time = b.time ∧ a.writer < b.writer := by
  unfold firstH
  rw [or2_neg, cmpI_neg, cmpI_zero, cmpI_neg]
theorem minL_mem : ∀ (l : List Hd) (m : Hd), minL m l ∈ m :: l
  | [], m => by simp [minL]
  | x :: l, m => by
    show minL (bif decide (firstH x m < 0) then x else m) l ∈ _
    have ih := minL_mem l (bif decide (firstH x m < 0) then x else m)
    rcases List.mem_cons.1 ih with h | h
    · rw [h]; cases decide (firstH x m < 0) <;> simp
    · simp [h]
theorem minL_min : ∀ (l : List Hd) (m : Hd), ∀ x ∈ m :: l, ¬ firstH x (minL m l) < 0
  | [], m, x, hx => by
    obtain rfl := List.mem_singleton.1 hx
    show ¬ firstH x x < 0
    rw [first_iff]; omega
  | y :: l, m, x, hx => by
    show ¬ firstH x (minL (bif decide (firstH y m < 0) then y else m) l) < 0
    have ih := minL_min l (bif decide (firstH y m < 0) then y else m)
    rcases List.mem_cons.1 hx with rfl | hx
    · have h0 := ih _ (List.mem_cons_self ..)
      rw [first_iff] at h0 ⊢
      by_cases hy : firstH y x < 0
      · rw [decide_eq_true hy] at h0 ⊢
        simp only [cond_true] at h0 ⊢
        rw [first_iff] at hy; omega
      · rw [decide_eq_false hy] at h0 ⊢
        exact h0
    · rcases List.mem_cons.1 hx with rfl | hx
      · have h0 := ih _ (List.mem_cons_self ..)
        rw [first_iff] at h0 ⊢
        by_cases hy : firstH x m < 0
        · rw [decide_eq_true hy] at h0 ⊢
          exact h0
        · rw [decide_eq_false hy] at h0 ⊢
          simp only [cond_false] at h0 ⊢
          rw [first_iff] at hy; omega
      · exact ih x (List.mem_cons_of_mem _ hx)
theorem pick_spec {hs : List Hd} {v : Vec} {h : Hd} (hp : pick hs v = some h) : h ∈ hs ∧ readyH v h = true ∧ ∀ x ∈ hs, readyH v x = true → ¬ firstH x h < 0 := by
  unfold pick at hp
  split at hp
  · cases hp
  · rename_i a t he
    cases hp
    have h1 : minL a t ∈ hs.filter (readyH v) := by rw [he]; exact minL_mem t a
    obtain ⟨h2, h3⟩ := List.mem_filter.1 h1
    refine ⟨h2, h3, fun x hx hr => minL_min t a x ?_⟩
    rw [← he]; exact List.mem_filter.2 ⟨hx, hr⟩
theorem pick_none {hs : List Hd} {v : Vec} : pick hs v = none ↔ hs.filter (readyH v) = [] := by
  unfold pick
  split <;> simp_all
theorem ready_formed {v : Vec} {h : Hd} (hr : readyH v h = true) : formedH h = true ∧ v (h.writer - 1).toNat = h.seq - 1 := by
  unfold readyH at hr
  simp only [Bool.and_eq_true, decide_eq_true_eq] at hr
  exact hr.1
theorem ready_core (v : Vec) (h : Hd) : readyH v (core h) = readyH v h := rfl
theorem ready_of_core {v : Vec} {o h : Hd} (hc : core o = core h) : readyH v o = readyH v h := by rw [← ready_core, hc, ready_core]
theorem put_of_core {v : Vec} {o h : Hd} (hc : core o = core h) : putV v o = putV v h := by
  have h1 : (core o).writer = (core h).writer := by rw [hc]
  have h2 : (core o).seq = (core h).seq := by rw [hc]
  have h1' : o.writer = h.writer := h1
  have h2' : o.seq = h.seq := h2
  unfold putV
  rw [h1', h2']

/-! ### it ends -/
def laterV (v : Vec) (h : Hd) : Bool := formedH h && decide (v (h.writer - 1).toNat < h.seq)
theorem countP_lt {p q : Hd → Bool} : ∀ {l : List Hd}, (∀ x ∈ l, p x = true → q x = true) → (∃ x ∈ l, q x = true ∧ p x = false) → l.countP p < l.countP q
  | [], _, h => by obtain ⟨x, hx, _⟩ := h; cases hx
  | a :: l, hpq, hx => by
    have hle : l.countP p ≤ l.countP q := List.countP_mono_left (fun x hx h => hpq x (List.mem_cons_of_mem _ hx) h)
    rw [List.countP_cons, List.countP_cons]
    obtain ⟨x, hx, h1, h2⟩ := hx
    rcases List.mem_cons.1 hx with rfl | hx
    · rw [h1, h2]; simp; omega
    · have ih := countP_lt (l := l) (fun x hx h => hpq x (List.mem_cons_of_mem _ hx) h) ⟨x, hx, h1, h2⟩
      have ha := hpq a (List.mem_cons_self ..)
      cases hp : p a with
      | false => simp; omega
      | true => rw [ha hp]; simp; omega
theorem putV_get (v : Vec) (h : Hd) (i : Nat) : putV v h i = bif Nat.beq i (h.writer - 1).toNat then h.seq else v i := rfl
theorem put_later {hs : List Hd} {v : Vec} {h : Hd} (hp : pick hs v = some h) : hs.countP (laterV (putV v h)) < hs.countP (laterV v) := by
  obtain ⟨hm, hr, _⟩ := pick_spec hp
  obtain ⟨hf, hv⟩ := ready_formed hr
  have hw := formed_w hf
  refine countP_lt (fun x _ hx => ?_) ⟨h, hm, ?_, ?_⟩
  · unfold laterV at hx ⊢
    simp only [Bool.and_eq_true, decide_eq_true_eq] at hx ⊢
    refine ⟨hx.1, ?_⟩
    have h1 := hx.2
    rw [putV_get] at h1
    cases hb : Nat.beq (x.writer - 1).toNat (h.writer - 1).toNat with
    | false => rw [hb] at h1; exact h1
    | true =>
      rw [hb] at h1
      simp only [cond_true] at h1
      rw [Nat.eq_of_beq_eq_true hb]; omega
  · unfold laterV
    rw [hf, Bool.true_and, decide_eq_true_eq]; omega
  · unfold laterV
    rw [putV_get, beq_yes]; simp
theorem path_len {hs : List Hd} {v0 v : Vec} {O : List Hd} (h : Path hs v0 O v) : O.length + hs.countP (laterV v) ≤ hs.length := by
  induction h with
  | nil => simpa using List.countP_le_length
  | snoc _ hp _ ih => have := put_later hp; rw [List.length_append]; simp only [List.length_cons, List.length_nil]; omega

/-! ### what came -/
def runV (v : Vec) (O : List Hd) : Vec := O.foldl putV v
theorem runV_snoc (v : Vec) (O : List Hd) (o : Hd) : runV v (O ++ [o]) = putV (runV v O) o := by simp [runV]
theorem path_end {hs : List Hd} {v0 v : Vec} {O : List Hd} (h : Path hs v0 O v) : v = runV v0 O := by
  induction h with
  | nil => rfl
  | snoc _ _ hc ih => rw [runV_snoc, ← ih, put_of_core hc]
theorem path_ready {hs : List Hd} {v0 v : Vec} {O : List Hd} (h : Path hs v0 O v) : ∀ i o, O[i]? = some o → readyH (runV v0 (O.take i)) o = true := by
  induction h with
  | nil => intro i o h; cases h
  | snoc hP hp hc ih =>
    rename_i O1 v' h1 o1
    intro i o hi
    rcases Nat.lt_or_ge i O1.length with hlt | hge
    · rw [List.getElem?_append_left hlt] at hi
      rw [List.take_append_of_le_length (by omega)]
      exact ih i o hi
    · have hi1 : i = O1.length := by
        have := (List.getElem?_eq_some_iff.1 hi).1
        simp at this; omega
      subst hi1
      simp at hi
      subst hi
      rw [List.take_left, ← path_end hP, ready_of_core hc]
      exact (pick_spec hp).2.1
theorem path_none {hs : List Hd} {v0 v : Vec} {O : List Hd} (h : Path hs v0 O v) (hn : pick hs v0 = none) : O = [] ∧ v = v0 := by
  induction h with
  | nil => exact ⟨rfl, rfl⟩
  | snoc hP hp hc ih =>
    obtain ⟨_, h2⟩ := ih
    subst h2
    rw [hn] at hp; cases hp
/-- two lists that pick alike -/
theorem path_same {hs hs' : List Hd} (hpk : ∀ v, pick hs v = pick hs' v) {v0 v : Vec} {O : List Hd} (h : Path hs v0 O v) : Path hs' v0 O v := by
  induction h with
  | nil => exact .nil
  | snoc _ hp hc ih => exact .snoc ih (by rw [← hpk]; exact hp) hc
theorem path_det_aux {hs : List Hd} {v0 : Vec} : ∀ (n : Nat) {v v' : Vec} {O O' : List Hd}, O.length = n → Path hs v0 O v → Path hs v0 O' v' → O.length ≤ O'.length →
    ∃ R, O'.length = O.length + R ∧ (∀ i o o', i < O.length → O[i]? = some o → O'[i]? = some o' → core o = core o') ∧ (R = 0 → v = v') ∧ (0 < R → pick hs v ≠ none) := by
  intro n v v' O O' hn h h'
  induction h' generalizing n v O with
  | nil =>
    intro hl
    have : O = [] := List.eq_nil_of_length_eq_zero (by simpa using hl)
    subst this
    refine ⟨0, by simp, fun i o o' hi => by simp at hi, fun _ => ?_, fun h => by omega⟩
    exact path_end h
  | snoc hP hp hc ih =>
    rename_i O1 v2 h1 o1
    intro hl
    rw [List.length_append] at hl
    simp only [List.length_cons, List.length_nil] at hl
    by_cases hle : O.length ≤ O1.length
    · obtain ⟨R, h2, h3, h4, h5⟩ := ih n hn h hle
      refine ⟨R + 1, by rw [List.length_append]; simp; omega, fun i o o' hi ho ho' => ?_, fun h => by omega, fun _ => ?_⟩
      · rw [List.getElem?_append_left (by omega)] at ho'
        exact h3 i o o' hi ho ho'
      · by_cases hR : R = 0
        · rw [h4 hR, hp]; simp
        · exact h5 (by omega)
    · have hlen : O.length = O1.length + 1 := by omega
      cases h with
      | nil => simp at hlen
      | snoc hQ hq hd =>
        rename_i O2 v3 h2 o2
        have hl2 : O2.length = O1.length := by simpa using hlen
        obtain ⟨R, k2, k3, k4, k5⟩ := ih O2.length rfl hQ (by omega)
        have hR : R = 0 := by omega
        have hv := k4 hR
        subst hv
        rw [hq] at hp
        cases hp
        refine ⟨0, by simp; omega, fun i o o' hi ho ho' => ?_, fun _ => rfl, fun h => by omega⟩
        rcases Nat.lt_or_ge i O2.length with hlt | hge
        · rw [List.getElem?_append_left hlt] at ho
          rw [List.getElem?_append_left (by omega)] at ho'
          exact k3 i o o' hlt ho ho'
        · have hi1 : i = O2.length := by simp at hi; omega
          subst hi1
          simp at ho
          rw [hl2] at ho'
          simp at ho'
          subst ho; subst ho'
          rw [hd, hc]
theorem path_det {hs : List Hd} {v0 v v' : Vec} {O O' : List Hd} (h : Path hs v0 O v) (h' : Path hs v0 O' v') (hn : pick hs v = none) (hn' : pick hs v' = none) :
    v = v' ∧ O.length = O'.length ∧ ∀ (i : Nat) (o o' : Hd), O[i]? = some o → O'[i]? = some o' → core o = core o' := by
  have key : ∀ {v v' : Vec} {O O' : List Hd}, Path hs v0 O v → Path hs v0 O' v' → pick hs v = none → O.length ≤ O'.length → v = v' ∧ O.length = O'.length ∧ ∀ (i : Nat) (o o' : Hd), O[i]? = some o → O'[i]? = some o' → core o = core o' := by
    intro v v' O O' h h' hn hl
    obtain ⟨R, h1, h2, h3, h4⟩ := path_det_aux O.length rfl h h' hl
    have hR : R = 0 := by
      rcases Nat.eq_zero_or_pos R with h | h
      · exact h
      · exact absurd hn (h4 h)
    exact ⟨h3 hR, by omega, fun i o o' ho ho' => h2 i o o' (List.getElem?_eq_some_iff.1 ho).1 ho ho'⟩
  rcases Nat.le_total O.length O'.length with hl | hl
  · exact key h h' hn hl
  · obtain ⟨h1, h2, h3⟩ := key h' h hn' hl
    exact ⟨h1.symm, h2.symm, fun i o o' ho ho' => (h3 i o' o ho' ho).symm⟩
end Go.Proofs.Ytkdbjhlkahkobaa
/- the order in which entries come: what the walk of it wants -/
namespace Go.Proofs.Ytkdbjhlkahkobaa
open Jal Go.RowKit
set_option maxRecDepth 100000
def hz : Hd := hdT 0
/-- the least of the first ones -/
def minT (L : List Hd) (i : Nat) : Hd := minL (L.getD 0 hz) ((L.drop 1).take i)
theorem minT_succ {L : List Hd} {i : Nat} (h : i + 1 < L.length) : minT L (i + 1) = bif decide (firstH (L.getD (i + 1) hz) (minT L i) < 0) then L.getD (i + 1) hz else minT L i := by
  unfold minT
  have h1 : (L.drop 1).take (i + 1) = (L.drop 1).take i ++ [L.getD (i + 1) hz] := by
    rw [List.take_add_one, List.getElem?_drop, Nat.add_comm 1 i, List.getElem?_eq_getElem h]
    simp [List.getD_eq_getElem?_getD, List.getElem?_eq_getElem h]
  rw [h1]
  unfold minL
  rw [List.foldl_append]; rfl
theorem minT_t {L : List Hd} {i : Nat} (h : i + 1 < L.length) (hd : decide (firstH (L.getD (i + 1) hz) (minT L i) < 0) = true) : minT L (i + 1) = L.getD (i + 1) hz := by rw [minT_succ h, hd]; rfl
theorem minT_f {L : List Hd} {i : Nat} (h : i + 1 < L.length) (hd : decide (firstH (L.getD (i + 1) hz) (minT L i) < 0) = false) : minT L (i + 1) = minT L i := by rw [minT_succ h, hd]; rfl
theorem minT_all {a : Hd} {t : List Hd} : minT (a :: t) ((a :: t).length - 1) = minL a t := by
  unfold minT
  simp
theorem pick_of {hs : List Hd} {v : Vec} {L : List Hd} (hL : hs.filter (readyH v) = L) (h0 : L ≠ []) : pick hs v = some (minT L (L.length - 1)) := by
  unfold pick
  rw [hL]
  cases L with
  | nil => exact absurd rfl h0
  | cons a t => rw [minT_all]
/-- those of the first ones that are ready -/
def rdyL (l : Nat → Hd) (v : Vec) (i : Nat) : List Hd := ((List.range i).map l).filter (readyH v)
theorem rdyL_t {l : Nat → Hd} {v : Vec} {i : Nat} (h : readyH v (l i) = true) : rdyL l v (i + 1) = rdyL l v i ++ [l i] := by
  unfold rdyL; rw [List.range_succ, List.map_append, List.filter_append]; simp [h]
theorem rdyL_f {l : Nat → Hd} {v : Vec} {i : Nat} (h : readyH v (l i) = false) : rdyL l v (i + 1) = rdyL l v i := by
  unfold rdyL; rw [List.range_succ, List.map_append, List.filter_append]; simp [h]
theorem rdyL_len (l : Nat → Hd) (v : Vec) (i : Nat) : (rdyL l v i).length ≤ i := by
  have h1 : (rdyL l v i).length ≤ ((List.range i).map l).length := List.length_filter_le _ _
  simpa using h1
theorem encV_set (v : Vec) (i : Nat) (x : Int) (h : i < 6) : (encV v).set (0 + i * 1) (.int .u64 x) = encV (ui v i x) := by
  rcases six h with rfl | rfl | rfl | rfl | rfl | rfl <;> rfl
theorem encH_setTok (h : Hd) (p : Option Addr) (c : Nat) : (encH h).set (0 + 53) (.slice p h.tn c) = encH { h with tp := p, tc := c } := rfl
theorem hdOk_retok {h : Hd} (k : HdOk h) (p : Option Addr) (c : Nat) : HdOk { h with tp := p, tc := c } :=
  ⟨k.w, k.s, k.e, k.t, k.n, k.k, k.z, k.tok, k.item, k.prev, k.sum, k.code⟩
theorem encH_one (h : Hd) : ∀ u ∈ encH h, u.oneCell' = true := oneA rfl
theorem bs54 (x : Hd) : ∀ w : World, (Instr.buildSlice 54 1 #[(0, .agg (encH x).toArray)]).run Try.prog w = .ok (.slice (some ⟨w.heap.size, 0, none⟩) 1 1) (w.alloc (.cells (encH x).toArray 37)) := fun w => by kernel_rfl
theorem el54 : ElT Try.prog 54 37 125 232 := by
  obtain ⟨i, h1, h2, h3, h4⟩ := info_parts (P := Try.prog) (e := 37) (z := .agg (encH hz).toArray) (size := 125) (bytes := 232) (by kernel_rfl)
  exact ⟨i, _, Try.underlying54, h1, h2, h3, h4, rfl, by decide⟩
theorem el35 : ElT Try.prog 35 34 16 16 := by
  obtain ⟨i, h1, h2, h3, h4⟩ := info_parts (P := Try.prog) (e := 34) (z := .agg (arr .u8 16 (fun _ => 0)).toArray) (size := 16) (bytes := 16) (by kernel_rfl)
  exact ⟨i, _, Try.underlying35, h1, h2, h3, h4, rfl, by decide⟩
structure OrdS where
  v : Vec
  O : List Hd
  ov : Value
  oe : List Ent
  tl : List Ent
def TokIn (H : List Ent) (o : Hd) : Prop := SlIn H o.tp o.tn 16 (fun i => arr .u8 16 (o.tok i))
structure OrdOk (hs : List Hd) (v0 : Vec) (s : OrdS) : Prop where
  path : Path hs v0 s.O s.v
  own : OwnL 37 125 s.ov s.O.length (s.O.flatMap encH) s.oe
  tok : ∀ o ∈ s.O, TokIn s.tl o ∧ HdOk o
def OrdR (hs : List Hd) (v0 : Vec) (r : Value) (Hn : List Ent) : Prop := ∃ s : OrdS, r = .tuple #[s.ov, .agg (encV s.v).toArray] ∧ Hn = s.oe ++ s.tl ∧ OrdOk hs v0 s ∧ pick hs s.v = none
theorem ordOk0 (hs : List Hd) (v0 : Vec) : OrdOk hs v0 ⟨v0, [], .slice none 0 0, [], []⟩ := ⟨.nil, OwnL.nil 37 125, fun o h => by cases h⟩
theorem OrdOk.next {hs : List Hd} {v0 : Vec} {s : OrdS} {h : Hd} {p : Option Addr} {c : Nat} {g cap : Nat} {oe' Hn : List Ent} (hO : OrdOk hs v0 s) (hp : pick hs s.v = some h) (hk : HdOk h)
    (hn : SlIn Hn p h.tn 16 (fun i => arr .u8 16 (h.tok i))) (hw : OwnL 37 125 (.slice (some ⟨g, 0, none⟩) (s.O.length + 1) cap) (s.O.length + 1) (s.O.flatMap encH ++ encH { h with tp := p, tc := c }) oe') :
    OrdOk hs v0 ⟨putV s.v h, s.O ++ [{ h with tp := p, tc := c }], .slice (some ⟨g, 0, none⟩) (s.O.length + 1) cap, oe', s.tl ++ Hn⟩ := by
  refine ⟨.snoc hO.path hp rfl, ?_, fun o ho => ?_⟩
  · simpa using hw
  · rcases List.mem_append.1 ho with ho | ho
    · obtain ⟨h1, h2⟩ := hO.tok o ho
      exact ⟨h1.mono (fun e he => List.mem_append_left _ he), h2⟩
    · obtain rfl := List.mem_singleton.1 ho
      exact ⟨hn.mono (fun e he => List.mem_append_right _ he), hdOk_retok hk p c⟩
end Go.Proofs.Ytkdbjhlkahkobaa
