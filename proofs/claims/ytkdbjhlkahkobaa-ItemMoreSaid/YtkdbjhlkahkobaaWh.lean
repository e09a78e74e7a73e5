/- walks, printed by a program of ours -/
import Derived.Test.YtkdbjhlkahkobaaTy
import Derived.Test.YtkdbjhlkahkobaaDef
import Derived.Test.YtkdbjhlkahkobaaWa
import Derived.Test.YtkdbjhlkahkobaaHdr
import Derived.Test.YtkdbjhlkahkobaaTail
namespace Go.Proofs.Ytkdbjhlkahkobaa
open Jal Go.RowKit
set_option maxRecDepth 100000
theorem nanu_calls (n : Int) (w : World) : Calls Try.prog 128 #[.int .u64 n] w (Ret (.bool false) w) := by
  refine fn_calls (n := 6) Try.func128 rfl rfl (lb rfl) ?_
  refine cseq ?_
  refine creg ?_
  refine l1 (asgb rfl) ?_
  refine lnil ?_
  refine nthen ?_
  refine cseq ?_
  refine creg ?_
  refine l1 (mvi rfl) ?_
  refine l1 (mvi rfl) ?_
  refine l1 (neq rfl rfl) ?_
  refine l1 (asgb rfl) ?_
  refine lnil ?_
  refine nthen ?_
  refine cret ?_
  exact fin1b rfl rfl (by simp)

theorem nani_calls (n : Int) (w : World) : Calls Try.prog 129 #[.int .i64 n] w (Ret (.bool false) w) := by
  refine fn_calls (n := 6) Try.func129 rfl rfl (lb rfl) ?_
  refine cseq ?_
  refine creg ?_
  refine l1 (asgb rfl) ?_
  refine lnil ?_
  refine nthen ?_
  refine cseq ?_
  refine creg ?_
  refine l1 (mvi rfl) ?_
  refine l1 (mvi rfl) ?_
  refine l1 (neq rfl rfl) ?_
  refine l1 (asgb rfl) ?_
  refine lnil ?_
  refine nthen ?_
  refine cret ?_
  exact fin1b rfl rfl (by simp)

theorem cmpu_calls (a b : Int) (w : World) : Calls Try.prog 105 #[.int .u64 a, .int .u64 b] w (Ret (.int .i64 (cmpI a b)) w) := by
  refine fn_calls (n := 20) Try.func105 rfl rfl (lb rfl) ?_
  refine cseq ?_
  refine creg ?_
  refine l1 (asgi rfl) ?_
  refine lnil ?_
  refine nthen ?_
  refine cseq ?_
  refine creg ?_
  refine l1 (mvi rfl) ?_
  refine l1 (cl hb128 rfl (mc rfl mn) (fun w hw => nanu_calls _ w)) ?_
  refine l1 (asgb rfl) ?_
  refine lnil ?_
  refine nthen ?_
  refine cseq ?_
  refine creg ?_
  refine l1 (mvi rfl) ?_
  refine l1 (cl hb128 rfl (mc rfl mn) (fun w hw => nanu_calls _ w)) ?_
  refine l1 (asgb rfl) ?_
  refine lnil ?_
  refine nthen ?_
  refine cseq ?_
  refine cseq ?_
  refine creg ?_
  refine l1 (mvb rfl) ?_
  refine lnil ?_
  refine nthen ?_
  refine ciff rfl ?_
  refine cskip ?_
  refine nthen ?_
  refine cseq ?_
  refine cseq ?_
  refine creg ?_
  refine l1 (mvb rfl) ?_
  refine lnil ?_
  refine nthen ?_
  refine ciff rfl ?_
  refine cskip ?_
  refine nthen ?_
  refine cseq ?_
  refine cseq ?_
  refine creg ?_
  refine l1 (mvi rfl) ?_
  refine l1 (mvi rfl) ?_
  refine l1 (lss rfl rfl) ?_
  refine lnil ?_
  refine nthen ?_
  refine cif rfl (fun h1 => ?_) (fun h1 => ?_)
  · skip
    refine cseq ?_
    refine creg ?_
    refine l1 (asgi rfl) ?_
    refine lnil ?_
    refine nthen ?_
    refine cret ?_
    refine nthenR ?_
    exact fin1i rfl rfl (by first | rfl | (simp only [cmpI, h1, cond_true, cond_false]; done))
  · skip
    refine cskip ?_
    refine nthen ?_
    refine cseq ?_
    refine cseq ?_
    refine creg ?_
    refine l1 (mvi rfl) ?_
    refine l1 (mvi rfl) ?_
    refine l1 (gtr rfl rfl) ?_
    refine lnil ?_
    refine nthen ?_
    refine cif rfl (fun h2 => ?_) (fun h2 => ?_)
    · skip
      refine cseq ?_
      refine creg ?_
      refine l1 (asgi rfl) ?_
      refine lnil ?_
      refine nthen ?_
      refine cret ?_
      refine nthenR ?_
      exact fin1i rfl rfl (by first | rfl | (simp only [cmpI, h1, h2, cond_true, cond_false]; done))
    · skip
      refine cskip ?_
      refine nthen ?_
      refine cseq ?_
      refine creg ?_
      refine l1 (asgi rfl) ?_
      refine lnil ?_
      refine nthen ?_
      refine cret ?_
      exact fin1i rfl rfl (by first | rfl | (simp only [cmpI, h1, h2, cond_true, cond_false]; done))

theorem cmpi_calls (a b : Int) (w : World) : Calls Try.prog 106 #[.int .i64 a, .int .i64 b] w (Ret (.int .i64 (cmpI a b)) w) := by
  refine fn_calls (n := 20) Try.func106 rfl rfl (lb rfl) ?_
  refine cseq ?_
  refine creg ?_
  refine l1 (asgi rfl) ?_
  refine lnil ?_
  refine nthen ?_
  refine cseq ?_
  refine creg ?_
  refine l1 (mvi rfl) ?_
  refine l1 (cl hb129 rfl (mc rfl mn) (fun w hw => nani_calls _ w)) ?_
  refine l1 (asgb rfl) ?_
  refine lnil ?_
  refine nthen ?_
  refine cseq ?_
  refine creg ?_
  refine l1 (mvi rfl) ?_
  refine l1 (cl hb129 rfl (mc rfl mn) (fun w hw => nani_calls _ w)) ?_
  refine l1 (asgb rfl) ?_
  refine lnil ?_
  refine nthen ?_
  refine cseq ?_
  refine cseq ?_
  refine creg ?_
  refine l1 (mvb rfl) ?_
  refine lnil ?_
  refine nthen ?_
  refine ciff rfl ?_
  refine cskip ?_
  refine nthen ?_
  refine cseq ?_
  refine cseq ?_
  refine creg ?_
  refine l1 (mvb rfl) ?_
  refine lnil ?_
  refine nthen ?_
  refine ciff rfl ?_
  refine cskip ?_
  refine nthen ?_
  refine cseq ?_
  refine cseq ?_
  refine creg ?_
  refine l1 (mvi rfl) ?_
  refine l1 (mvi rfl) ?_
  refine l1 (lss rfl rfl) ?_
  refine lnil ?_
  refine nthen ?_
  refine cif rfl (fun h1 => ?_) (fun h1 => ?_)
  · skip
    refine cseq ?_
    refine creg ?_
    refine l1 (asgi rfl) ?_
    refine lnil ?_
    refine nthen ?_
    refine cret ?_
    refine nthenR ?_
    exact fin1i rfl rfl (by first | rfl | (simp only [cmpI, h1, cond_true, cond_false]; done))
  · skip
    refine cskip ?_
    refine nthen ?_
    refine cseq ?_
    refine cseq ?_
    refine creg ?_
    refine l1 (mvi rfl) ?_
    refine l1 (mvi rfl) ?_
    refine l1 (gtr rfl rfl) ?_
    refine lnil ?_
    refine nthen ?_
    refine cif rfl (fun h2 => ?_) (fun h2 => ?_)
    · skip
      refine cseq ?_
      refine creg ?_
      refine l1 (asgi rfl) ?_
      refine lnil ?_
      refine nthen ?_
      refine cret ?_
      refine nthenR ?_
      exact fin1i rfl rfl (by first | rfl | (simp only [cmpI, h1, h2, cond_true, cond_false]; done))
    · skip
      refine cskip ?_
      refine nthen ?_
      refine cseq ?_
      refine creg ?_
      refine l1 (asgi rfl) ?_
      refine lnil ?_
      refine nthen ?_
      refine cret ?_
      exact fin1i rfl rfl (by first | rfl | (simp only [cmpI, h1, h2, cond_true, cond_false]; done))

theorem or2_calls (p : Option Addr) (c : Nat) (f : Nat → Int) (w : World) (hl : Sl w p 2 1 (fun i => [.int .i64 (f i)])) : Calls Try.prog 104 #[.slice p 2 c] w (Ret (.int .i64 (or2 (f 0) (f 1))) w) := by
  refine fn_calls (n := 18) Try.func104 rfl rfl (lb rfl) ?_
  obtain ⟨b, o, rfl, hbl, hm⟩ := hl.at (i := 0) (by decide)
  refine cseq ?_
  refine creg ?_
  refine l1 (asgi rfl) ?_
  refine lnil ?_
  refine nthen ?_
  refine cseq ?_
  refine creg ?_
  refine l1 (asgi rfl) ?_
  refine lnil ?_
  refine nthen ?_
  refine cseq ?_
  refine cseq ?_
  refine creg ?_
  refine l1 (mvs rfl) ?_
  refine l1 (lens sl151 rfl rfl) ?_
  refine l1 (mvi rfl) ?_
  refine lnil ?_
  refine nthen ?_
  refine cblock ?_
  refine cloopN 3 ?_
  refine rsucc ?_
  refine cseq ?_
  refine creg ?_
  refine l1 (lss rfl rfl) ?_
  refine lnil ?_
  refine nthen ?_
  refine cseq ?_
  refine cift rfl ?_
  refine cskip ?_
  refine nthen ?_
  refine cseq ?_
  refine cblock ?_
  refine cseq ?_
  refine creg ?_
  refine l1 (is sl151 rfl rfl (by decide) (by decide)) ?_
  refine l1 (ldm Try.isAgg3 rfl (fun w' hw => ((hm _ (by decide)).kept hw.below hbl).c0)) ?_
  refine l1 (asgi rfl) ?_
  refine lnil ?_
  refine nthen ?_
  refine cseq ?_
  refine creg ?_
  refine l1 (mvi rfl) ?_
  refine l1 (mvi rfl) ?_
  refine l1 (neq rfl rfl) ?_
  refine lnil ?_
  refine nthen ?_
  refine cif rfl (fun h1 => ?_) (fun h1 => ?_)
  · replace h1 : decide (f 0 ≠ 0) = _ := h1
    refine cseq ?_
    refine creg ?_
    refine l1 (mvi rfl) ?_
    refine l1 (asgi rfl) ?_
    refine lnil ?_
    refine nthen ?_
    refine cret ?_
    refine nblkR ?_
    refine nthenR ?_
    refine nroundR ?_
    refine nblkR ?_
    refine nthenR ?_
    exact fin1i rfl rfl (by simp only [or2, h1, cond_true, cond_false] <;> rfl)
  · replace h1 : decide (f 0 ≠ 0) = _ := h1
    refine cskip ?_
    refine nblkN ?_
    refine nthen ?_
    refine creg ?_
    first | refine l1 (addn rfl rfl (ri (by omega) (by omega))) ?_ | refine l1 (add rfl rfl) ?_
    refine l1 (mvi rfl) ?_
    refine lnil ?_
    refine nround (rsucc ?_)
    refine cseq ?_
    refine creg ?_
    refine l1 (lss rfl rfl) ?_
    refine lnil ?_
    refine nthen ?_
    refine cseq ?_
    refine cift rfl ?_
    refine cskip ?_
    refine nthen ?_
    refine cseq ?_
    refine cblock ?_
    refine cseq ?_
    refine creg ?_
    refine l1 (is sl151 rfl rfl (by decide) (by decide)) ?_
    refine l1 (ldm Try.isAgg3 rfl (fun w' hw => ((hm _ (by decide)).kept hw.below hbl).c0)) ?_
    refine l1 (asgi rfl) ?_
    refine lnil ?_
    refine nthen ?_
    refine cseq ?_
    refine creg ?_
    refine l1 (mvi rfl) ?_
    refine l1 (mvi rfl) ?_
    refine l1 (neq rfl rfl) ?_
    refine lnil ?_
    refine nthen ?_
    refine cif rfl (fun h2 => ?_) (fun h2 => ?_)
    · replace h2 : decide (f 1 ≠ 0) = _ := h2
      refine cseq ?_
      refine creg ?_
      refine l1 (mvi rfl) ?_
      refine l1 (asgi rfl) ?_
      refine lnil ?_
      refine nthen ?_
      refine cret ?_
      refine nblkR ?_
      refine nthenR ?_
      refine nroundR ?_
      refine nblkR ?_
      refine nthenR ?_
      exact fin1i rfl rfl (by simp only [or2, h1, h2, cond_true, cond_false] <;> rfl)
    · replace h2 : decide (f 1 ≠ 0) = _ := h2
      refine cskip ?_
      refine nblkN ?_
      refine nthen ?_
      refine creg ?_
      first | refine l1 (addn rfl rfl (ri (by omega) (by omega))) ?_ | refine l1 (add rfl rfl) ?_
      refine l1 (mvi rfl) ?_
      refine lnil ?_
      refine nround (rsucc ?_)
      refine cseq ?_
      refine creg ?_
      refine l1 (lss rfl rfl) ?_
      refine lnil ?_
      refine nthen ?_
      refine cseq ?_
      refine ciff rfl ?_
      refine cexit ?_
      refine nthenE ?_
      refine nroundE ?_
      refine nblkE ?_
      refine nthen ?_
      refine cseq ?_
      refine creg ?_
      refine l1 (mvi rfl) ?_
      refine l1 (asgi rfl) ?_
      refine lnil ?_
      refine nthen ?_
      refine cret ?_
      exact fin1i rfl rfl (by simp only [or2, h1, h2, cond_true, cond_false] <;> rfl)

theorem or3_calls (p : Option Addr) (c : Nat) (f : Nat → Int) (w : World) (hl : Sl w p 3 1 (fun i => [.int .i64 (f i)])) : Calls Try.prog 104 #[.slice p 3 c] w (Ret (.int .i64 (or3 (f 0) (f 1) (f 2))) w) := by
  refine fn_calls (n := 18) Try.func104 rfl rfl (lb rfl) ?_
  obtain ⟨b, o, rfl, hbl, hm⟩ := hl.at (i := 0) (by decide)
  refine cseq ?_
  refine creg ?_
  refine l1 (asgi rfl) ?_
  refine lnil ?_
  refine nthen ?_
  refine cseq ?_
  refine creg ?_
  refine l1 (asgi rfl) ?_
  refine lnil ?_
  refine nthen ?_
  refine cseq ?_
  refine cseq ?_
  refine creg ?_
  refine l1 (mvs rfl) ?_
  refine l1 (lens sl151 rfl rfl) ?_
  refine l1 (mvi rfl) ?_
  refine lnil ?_
  refine nthen ?_
  refine cblock ?_
  refine cloopN 4 ?_
  refine rsucc ?_
  refine cseq ?_
  refine creg ?_
  refine l1 (lss rfl rfl) ?_
  refine lnil ?_
  refine nthen ?_
  refine cseq ?_
  refine cift rfl ?_
  refine cskip ?_
  refine nthen ?_
  refine cseq ?_
  refine cblock ?_
  refine cseq ?_
  refine creg ?_
  refine l1 (is sl151 rfl rfl (by decide) (by decide)) ?_
  refine l1 (ldm Try.isAgg3 rfl (fun w' hw => ((hm _ (by decide)).kept hw.below hbl).c0)) ?_
  refine l1 (asgi rfl) ?_
  refine lnil ?_
  refine nthen ?_
  refine cseq ?_
  refine creg ?_
  refine l1 (mvi rfl) ?_
  refine l1 (mvi rfl) ?_
  refine l1 (neq rfl rfl) ?_
  refine lnil ?_
  refine nthen ?_
  refine cif rfl (fun h1 => ?_) (fun h1 => ?_)
  · replace h1 : decide (f 0 ≠ 0) = _ := h1
    refine cseq ?_
    refine creg ?_
    refine l1 (mvi rfl) ?_
    refine l1 (asgi rfl) ?_
    refine lnil ?_
    refine nthen ?_
    refine cret ?_
    refine nblkR ?_
    refine nthenR ?_
    refine nroundR ?_
    refine nblkR ?_
    refine nthenR ?_
    exact fin1i rfl rfl (by simp only [or3, h1, cond_true, cond_false] <;> rfl)
  · replace h1 : decide (f 0 ≠ 0) = _ := h1
    refine cskip ?_
    refine nblkN ?_
    refine nthen ?_
    refine creg ?_
    first | refine l1 (addn rfl rfl (ri (by omega) (by omega))) ?_ | refine l1 (add rfl rfl) ?_
    refine l1 (mvi rfl) ?_
    refine lnil ?_
    refine nround (rsucc ?_)
    refine cseq ?_
    refine creg ?_
    refine l1 (lss rfl rfl) ?_
    refine lnil ?_
    refine nthen ?_
    refine cseq ?_
    refine cift rfl ?_
    refine cskip ?_
    refine nthen ?_
    refine cseq ?_
    refine cblock ?_
    refine cseq ?_
    refine creg ?_
    refine l1 (is sl151 rfl rfl (by decide) (by decide)) ?_
    refine l1 (ldm Try.isAgg3 rfl (fun w' hw => ((hm _ (by decide)).kept hw.below hbl).c0)) ?_
    refine l1 (asgi rfl) ?_
    refine lnil ?_
    refine nthen ?_
    refine cseq ?_
    refine creg ?_
    refine l1 (mvi rfl) ?_
    refine l1 (mvi rfl) ?_
    refine l1 (neq rfl rfl) ?_
    refine lnil ?_
    refine nthen ?_
    refine cif rfl (fun h2 => ?_) (fun h2 => ?_)
    · replace h2 : decide (f 1 ≠ 0) = _ := h2
      refine cseq ?_
      refine creg ?_
      refine l1 (mvi rfl) ?_
      refine l1 (asgi rfl) ?_
      refine lnil ?_
      refine nthen ?_
      refine cret ?_
      refine nblkR ?_
      refine nthenR ?_
      refine nroundR ?_
      refine nblkR ?_
      refine nthenR ?_
      exact fin1i rfl rfl (by simp only [or3, h1, h2, cond_true, cond_false] <;> rfl)
    · replace h2 : decide (f 1 ≠ 0) = _ := h2
      refine cskip ?_
      refine nblkN ?_
      refine nthen ?_
      refine creg ?_
      first | refine l1 (addn rfl rfl (ri (by omega) (by omega))) ?_ | refine l1 (add rfl rfl) ?_
      refine l1 (mvi rfl) ?_
      refine lnil ?_
      refine nround (rsucc ?_)
      refine cseq ?_
      refine creg ?_
      refine l1 (lss rfl rfl) ?_
      refine lnil ?_
      refine nthen ?_
      refine cseq ?_
      refine cift rfl ?_
      refine cskip ?_
      refine nthen ?_
      refine cseq ?_
      refine cblock ?_
      refine cseq ?_
      refine creg ?_
      refine l1 (is sl151 rfl rfl (by decide) (by decide)) ?_
      refine l1 (ldm Try.isAgg3 rfl (fun w' hw => ((hm _ (by decide)).kept hw.below hbl).c0)) ?_
      refine l1 (asgi rfl) ?_
      refine lnil ?_
      refine nthen ?_
      refine cseq ?_
      refine creg ?_
      refine l1 (mvi rfl) ?_
      refine l1 (mvi rfl) ?_
      refine l1 (neq rfl rfl) ?_
      refine lnil ?_
      refine nthen ?_
      refine cif rfl (fun h3 => ?_) (fun h3 => ?_)
      · replace h3 : decide (f 2 ≠ 0) = _ := h3
        refine cseq ?_
        refine creg ?_
        refine l1 (mvi rfl) ?_
        refine l1 (asgi rfl) ?_
        refine lnil ?_
        refine nthen ?_
        refine cret ?_
        refine nblkR ?_
        refine nthenR ?_
        refine nroundR ?_
        refine nblkR ?_
        refine nthenR ?_
        exact fin1i rfl rfl (by simp only [or3, h1, h2, h3, cond_true, cond_false] <;> rfl)
      · replace h3 : decide (f 2 ≠ 0) = _ := h3
        refine cskip ?_
        refine nblkN ?_
        refine nthen ?_
        refine creg ?_
        first | refine l1 (addn rfl rfl (ri (by omega) (by omega))) ?_ | refine l1 (add rfl rfl) ?_
        refine l1 (mvi rfl) ?_
        refine lnil ?_
        refine nround (rsucc ?_)
        refine cseq ?_
        refine creg ?_
        refine l1 (lss rfl rfl) ?_
        refine lnil ?_
        refine nthen ?_
        refine cseq ?_
        refine ciff rfl ?_
        refine cexit ?_
        refine nthenE ?_
        refine nroundE ?_
        refine nblkE ?_
        refine nthen ?_
        refine cseq ?_
        refine creg ?_
        refine l1 (mvi rfl) ?_
        refine l1 (asgi rfl) ?_
        refine lnil ?_
        refine nthen ?_
        refine cret ?_
        exact fin1i rfl rfl (by simp only [or3, h1, h2, h3, cond_true, cond_false] <;> rfl)

def f3 (x y z : Int) : Nat → Int
  | 0 => x
  | 1 => y
  | _ => z
theorem or2_at {w0 w : World} {H : List Ent} {i : Nat} {b : Nat} {x y : Int} (hw : Sat w0 H w) (hi : H[i]? = some ⟨b, [.int .i64 x, .int .i64 y], 3⟩) : Calls Try.prog 104 #[.slice (some ⟨b, 0, none⟩) 2 2] w (Ret (.int .i64 (or2 x y)) w) :=
  or2_calls _ _ (f3 x y 0) w (SlIn.sl (.inr ⟨_, List.mem_of_getElem? hi, rfl, fun i hi j v hv => by
    match i, j with
    | 0, 0 => exact hv
    | 1, 0 => exact hv
    | i + 2, _ => omega
    | _, j + 1 => cases hv⟩) hw)
theorem or3_at {w0 w : World} {H : List Ent} {i : Nat} {b : Nat} {x y z : Int} (hw : Sat w0 H w) (hi : H[i]? = some ⟨b, [.int .i64 x, .int .i64 y, .int .i64 z], 3⟩) : Calls Try.prog 104 #[.slice (some ⟨b, 0, none⟩) 3 3] w (Ret (.int .i64 (or3 x y z)) w) :=
  or3_calls _ _ (f3 x y z) w (SlIn.sl (.inr ⟨_, List.mem_of_getElem? hi, rfl, fun i hi j v hv => by
    match i, j with
    | 0, 0 => exact hv
    | 1, 0 => exact hv
    | 2, 0 => exact hv
    | i + 3, _ => omega
    | _, j + 1 => cases hv⟩) hw)
theorem bs151_2 (x y : Int) : ∀ w : World, (Instr.buildSlice 151 2 #[(0, .int .i64 x), (1, .int .i64 y)]).run Try.prog w = .ok (.slice (some ⟨w.heap.size, 0, none⟩) 2 2) (w.alloc (.cells [.int .i64 x, .int .i64 y].toArray 3)) := fun w => by kernel_rfl
theorem bs151_3 (x y z : Int) : ∀ w : World, (Instr.buildSlice 151 3 #[(0, .int .i64 x), (1, .int .i64 y), (2, .int .i64 z)]).run Try.prog w = .ok (.slice (some ⟨w.heap.size, 0, none⟩) 3 3) (w.alloc (.cells [.int .i64 x, .int .i64 y, .int .i64 z].toArray 3)) := fun w => by kernel_rfl
def cmpH (a b : Hd) : Int := or3 (cmpI a.time b.time) (cmpI a.writer b.writer) (cmpI a.seq b.seq)
def laterH (a b : Hd) : Bool := decide (cmpH a b > 0)
def firstH (a b : Hd) : Int := or2 (cmpI a.time b.time) (cmpI a.writer b.writer)

theorem compare_calls (a b : Hd) (w : World) : Calls Try.prog 69 #[.agg (encH a).toArray, .agg (encH b).toArray] w (Ret (.int .i64 (cmpH a b)) w) := by
  refine fn_calls (n := 22) Try.func69 rfl rfl (lb rfl) ?_
  refine cseq ?_
  refine creg ?_
  refine lbxa rfl (fun b1 => ?_)
  refine lbxa rfl (fun b2 => ?_)
  refine l1 (asgi rfl) ?_
  refine lnil ?_
  refine nthen ?_
  refine cseq ?_
  refine cregT 15 mo (by kernel_rfl) ?_
  refine q1 (fa fa37_5 rfl) ?_
  refine q1 (ldc 0 Try.isAgg22 rfl rfl rfl) ?_
  refine q1 (fa fa37_5 rfl) ?_
  refine q1 (ldc 1 Try.isAgg22 rfl rfl rfl) ?_
  refine q1 (cl hb105 rfl (mc rfl (mc rfl mn)) (fun w hw => cmpu_calls _ _ w)) ?_
  refine q1 (fa fa37_0 rfl) ?_
  refine q1 (ldc 0 Try.isAgg3 rfl rfl rfl) ?_
  refine q1 (fa fa37_0 rfl) ?_
  refine q1 (ldc 1 Try.isAgg3 rfl rfl rfl) ?_
  refine q1 (cl hb106 rfl (mc rfl (mc rfl mn)) (fun w hw => cmpi_calls _ _ w)) ?_
  refine q1 (fa fa37_1 rfl) ?_
  refine q1 (ldc 0 Try.isAgg22 rfl rfl rfl) ?_
  refine q1 (fa fa37_1 rfl) ?_
  refine q1 (ldc 1 Try.isAgg22 rfl rfl rfl) ?_
  refine q1 (cl hb105 rfl (mc rfl (mc rfl mn)) (fun w hw => cmpu_calls _ _ w)) ?_
  refine qtail ?_
  refine lbs Try.underlying151 rfl (bs151_3 _ _ _) (fun b3 => ?_)
  refine l1 (cl hb104 rfl (mc rfl mn) (fun w hw => or3_at hw (i := 2) rfl)) ?_
  refine l1 (asgi rfl) ?_
  refine lnil ?_
  refine nthen ?_
  refine cret ?_
  exact fin1 rfl rfl

theorem first_calls (a b : Hd) (w : World) : Calls Try.prog 81 #[.agg (encH a).toArray, .agg (encH b).toArray] w (Ret (.int .i64 (firstH a b)) w) := by
  refine fn_calls (n := 17) Try.func81 rfl rfl (lb rfl) ?_
  refine cseq ?_
  refine creg ?_
  refine lbxa rfl (fun b1 => ?_)
  refine lbxa rfl (fun b2 => ?_)
  refine l1 (asgi rfl) ?_
  refine lnil ?_
  refine nthen ?_
  refine cseq ?_
  refine cregT 10 mo (by kernel_rfl) ?_
  refine q1 (fa fa37_5 rfl) ?_
  refine q1 (ldc 0 Try.isAgg22 rfl rfl rfl) ?_
  refine q1 (fa fa37_5 rfl) ?_
  refine q1 (ldc 1 Try.isAgg22 rfl rfl rfl) ?_
  refine q1 (cl hb105 rfl (mc rfl (mc rfl mn)) (fun w hw => cmpu_calls _ _ w)) ?_
  refine q1 (fa fa37_0 rfl) ?_
  refine q1 (ldc 0 Try.isAgg3 rfl rfl rfl) ?_
  refine q1 (fa fa37_0 rfl) ?_
  refine q1 (ldc 1 Try.isAgg3 rfl rfl rfl) ?_
  refine q1 (cl hb106 rfl (mc rfl (mc rfl mn)) (fun w hw => cmpi_calls _ _ w)) ?_
  refine qtail ?_
  refine lbs Try.underlying151 rfl (bs151_2 _ _) (fun b3 => ?_)
  refine l1 (cl hb104 rfl (mc rfl mn) (fun w hw => or2_at hw (i := 2) rfl)) ?_
  refine l1 (asgi rfl) ?_
  refine lnil ?_
  refine nthen ?_
  refine cret ?_
  exact fin1 rfl rfl

theorem later_calls (a b : Hd) (w : World) : Calls Try.prog 28 #[.agg (encH a).toArray, .agg (encH b).toArray] w (Ret (.bool (laterH a b)) w) := by
  refine fn_calls (n := 9) Try.func28 rfl rfl (lb rfl) ?_
  refine cseq ?_
  refine creg ?_
  refine lbxa rfl (fun b1 => ?_)
  refine lbxa rfl (fun b2 => ?_)
  refine l1 (asgb rfl) ?_
  refine lnil ?_
  refine nthen ?_
  refine cseq ?_
  refine creg ?_
  refine l1 (ldw 0 Try.isAgg37 Try.sizeOf37 rfl rfl rfl) ?_
  refine l1 (ldw 1 Try.isAgg37 Try.sizeOf37 rfl rfl rfl) ?_
  refine l1 (cl hb69 rfl (mc rfl (mc rfl mn)) (fun w hw => compare_calls _ _ w)) ?_
  refine l1 (gtr rfl rfl) ?_
  refine l1 (asgb rfl) ?_
  refine lnil ?_
  refine nthen ?_
  refine cret ?_
  exact fin1 rfl rfl

def rlaterH (a b : Hd) : Bool := bif decide (a.time ≠ b.time) then decide (a.time > b.time) else bif decide (a.writer ≠ b.writer) then decide (a.writer > b.writer) else decide (a.seq > b.seq)

theorem rlater_calls (a b : Hd) (w : World) : Calls Try.prog 30 #[.agg (encH a).toArray, .agg (encH b).toArray] w (Ret (.bool (rlaterH a b)) w) := by
  refine fn_calls (n := 30) Try.func30 rfl rfl (lb rfl) ?_
  refine cseq ?_
  refine creg ?_
  refine lbxa rfl (fun b1 => ?_)
  refine lbxa rfl (fun b2 => ?_)
  refine l1 (asgb rfl) ?_
  refine lnil ?_
  refine nthen ?_
  refine cseq ?_
  refine cseq ?_
  refine creg ?_
  refine l1 (fa fa37_5 rfl) ?_
  refine l1 (ldc 0 Try.isAgg22 rfl rfl rfl) ?_
  refine l1 (fa fa37_5 rfl) ?_
  refine l1 (ldc 1 Try.isAgg22 rfl rfl rfl) ?_
  refine l1 (neq rfl rfl) ?_
  refine lnil ?_
  refine nthen ?_
  refine cif rfl (fun h1 => ?_) (fun h1 => ?_)
  · skip
    refine cseq ?_
    refine creg ?_
    refine l1 (fa fa37_5 rfl) ?_
    refine l1 (ldc 0 Try.isAgg22 rfl rfl rfl) ?_
    refine l1 (fa fa37_5 rfl) ?_
    refine l1 (ldc 1 Try.isAgg22 rfl rfl rfl) ?_
    refine l1 (gtr rfl rfl) ?_
    refine l1 (asgb rfl) ?_
    refine lnil ?_
    refine nthen ?_
    refine cret ?_
    refine nthenR ?_
    exact fin1b rfl rfl (by first | rfl | (simp only [rlaterH, h1, cond_true, cond_false]; done))
  · skip
    refine cskip ?_
    refine nthen ?_
    refine cseq ?_
    refine cseq ?_
    refine creg ?_
    refine l1 (fa fa37_0 rfl) ?_
    refine l1 (ldc 0 Try.isAgg3 rfl rfl rfl) ?_
    refine l1 (fa fa37_0 rfl) ?_
    refine l1 (ldc 1 Try.isAgg3 rfl rfl rfl) ?_
    refine l1 (neq rfl rfl) ?_
    refine lnil ?_
    refine nthen ?_
    refine cif rfl (fun h2 => ?_) (fun h2 => ?_)
    · skip
      refine cseq ?_
      refine creg ?_
      refine l1 (fa fa37_0 rfl) ?_
      refine l1 (ldc 0 Try.isAgg3 rfl rfl rfl) ?_
      refine l1 (fa fa37_0 rfl) ?_
      refine l1 (ldc 1 Try.isAgg3 rfl rfl rfl) ?_
      refine l1 (gtr rfl rfl) ?_
      refine l1 (asgb rfl) ?_
      refine lnil ?_
      refine nthen ?_
      refine cret ?_
      refine nthenR ?_
      exact fin1b rfl rfl (by first | rfl | (simp only [rlaterH, h1, h2, cond_true, cond_false]; done))
    · skip
      refine cskip ?_
      refine nthen ?_
      refine cseq ?_
      refine creg ?_
      refine l1 (fa fa37_1 rfl) ?_
      refine l1 (ldc 0 Try.isAgg22 rfl rfl rfl) ?_
      refine l1 (fa fa37_1 rfl) ?_
      refine l1 (ldc 1 Try.isAgg22 rfl rfl rfl) ?_
      refine l1 (gtr rfl rfl) ?_
      refine l1 (asgb rfl) ?_
      refine lnil ?_
      refine nthen ?_
      refine cret ?_
      exact fin1b rfl rfl (by first | rfl | (simp only [rlaterH, h1, h2, cond_true, cond_false]; done))

def hdT (t : Int) : Hd := ⟨0, 0, fun _ => 0, 0, false, t, fun _ => 0, none, 0, 0, fun _ _ => 0, fun _ => 0, fun _ => 0, 0, fun _ => 0⟩
theorem bk37 (t : Int) : ∀ w, (Instr.build 37 #[(5, .int .u64 t)]).run Try.prog w = .ok (.agg (encH (hdT t)).toArray) w := fun w => by kernel_rfl

theorem awake18_calls  (w : World) : Calls Try.prog 29 #[] w (Ret (.bool true) w) := by
  refine fn_calls (n := 4) Try.func29 rfl rfl (lb rfl) ?_
  refine cseq ?_
  refine creg ?_
  refine l1 (asgb rfl) ?_
  refine lnil ?_
  refine nthen ?_
  refine cseq ?_
  refine creg ?_
  refine l1 (bldk rfl (bk37 _)) ?_
  refine l1 (bldk rfl (bk37 _)) ?_
  refine l1 (cl hb28 rfl (mc rfl (mc rfl mn)) (fun w hw => later_calls _ _ w)) ?_
  refine l1 (asgb rfl) ?_
  refine lnil ?_
  refine nthen ?_
  refine cret ?_
  exact fin1 rfl rfl

theorem or3_pos {a b c : Int} : or3 a b c > 0 ↔ a > 0 ∨ a = 0 ∧ (b > 0 ∨ b = 0 ∧ c > 0) := by
  unfold or3
  simp only [cond_eq_ite, decide_eq_true_eq]
  by_cases ha : a = 0 <;> by_cases hb : b = 0 <;> by_cases hc : c = 0 <;> simp [ha, hb, hc] <;> omega
theorem cmpI_pos {a b : Int} : cmpI a b > 0 ↔ a > b := by
  unfold cmpI
  simp only [cond_eq_ite, decide_eq_true_eq]
  by_cases h1 : a < b <;> by_cases h2 : a > b <;> simp [h1, h2] <;> omega
theorem cmpI_zero {a b : Int} : cmpI a b = 0 ↔ a = b := by
  unfold cmpI
  simp only [cond_eq_ite, decide_eq_true_eq]
  by_cases h1 : a < b <;> by_cases h2 : a > b <;> simp [h1, h2] <;> omega
theorem later_iff {a b : Hd} : laterH a b = true ↔ a.time > b.time ∨ a.time = b.time ∧ (a.writer > b.writer ∨ a.writer = b.writer ∧ a.seq > b.seq) := by
  unfold laterH cmpH
  rw [decide_eq_true_eq, or3_pos, cmpI_pos, cmpI_zero, cmpI_pos, cmpI_zero, cmpI_pos]
theorem rlater_eq (a b : Hd) : rlaterH a b = laterH a b := by
  apply Bool.eq_iff_iff.2
  rw [later_iff]
  unfold rlaterH
  simp only [cond_eq_ite, decide_eq_true_eq]
  by_cases h1 : a.time = b.time <;> by_cases h2 : a.writer = b.writer <;> simp [h1, h2] <;> omega
theorem later_law (a b c : Hd) : (((!(laterH a b) || !(laterH b c)) || laterH a c) && !(laterH a b && laterH b a)) = true := by
  have h1 := @later_iff a b
  have h2 := @later_iff b c
  have h3 := @later_iff a c
  have h4 := @later_iff b a
  cases e1 : laterH a b <;> cases e2 : laterH b c <;> cases e3 : laterH a c <;> cases e4 : laterH b a <;> simp only [e1, e2, e3, e4] at * <;> first | rfl | (exfalso; simp at h1 h2 h3 h4; omega)

set_option maxHeartbeats 4000000 in
theorem later3_law (a b c : Hd) (w : World) : Calls Try.prog 5 #[.agg (encH a).toArray, .agg (encH b).toArray, .agg (encH c).toArray] w (Ret (.bool true) w) := by
  refine fn_calls (n := 54) Try.func5 rfl rfl (lb rfl) ?_
  refine cseq ?_
  refine creg ?_
  refine lbxa rfl (fun b1 => ?_)
  refine lbxa rfl (fun b2 => ?_)
  refine lbxa rfl (fun b3 => ?_)
  refine l1 (asgb rfl) ?_
  refine lnil ?_
  refine nthen ?_
  refine cseq ?_
  refine cregq mo (by kernel_rfl) ?_
  refine q1 (ldw 0 Try.isAgg37 Try.sizeOf37 rfl rfl rfl) ?_
  refine q1 (ldw 1 Try.isAgg37 Try.sizeOf37 rfl rfl rfl) ?_
  refine q1 (cl hb28 rfl (mc rfl (mc rfl mn)) (fun w hw => later_calls _ _ w)) ?_
  refine q1 (ldw 1 Try.isAgg37 Try.sizeOf37 rfl rfl rfl) ?_
  refine q1 (ldw 2 Try.isAgg37 Try.sizeOf37 rfl rfl rfl) ?_
  refine q1 (cl hb28 rfl (mc rfl (mc rfl mn)) (fun w hw => later_calls _ _ w)) ?_
  refine q1 (ldw 0 Try.isAgg37 Try.sizeOf37 rfl rfl rfl) ?_
  refine q1 (ldw 2 Try.isAgg37 Try.sizeOf37 rfl rfl rfl) ?_
  refine q1 (cl hb28 rfl (mc rfl (mc rfl mn)) (fun w hw => later_calls _ _ w)) ?_
  refine q1 (asgb rfl) ?_
  refine q1 (asgb rfl) ?_
  refine q1 (asgb rfl) ?_
  refine qnil ?_
  refine nthen ?_
  refine cseq ?_
  refine creg ?_
  refine l1 (cl hb29 rfl mn (fun w hw => awake18_calls w)) ?_
  refine l1 (mvb rfl) ?_
  refine l1g rfl (gwt rfl) (fun h => mvb rfl) ?_
  refine l1g rfl (gwt rfl) (fun h => ldw 0 Try.isAgg37 Try.sizeOf37 rfl rfl rfl) ?_
  refine l1g rfl (gwt rfl) (fun h => ldw 1 Try.isAgg37 Try.sizeOf37 rfl rfl rfl) ?_
  refine l1g rfl (gwt rfl) (fun h => cl hb30 rfl (mc (gvt h) (mc (gvt h) mn)) (fun w hw => rlater_calls _ _ w)) ?_
  refine l1g rfl (gwt rfl) (fun h => eqlb Try.underlying4 (gvt h) (gvt h)) ?_
  refine l1 (pk_and rfl rfl rfl) ?_
  refine l1 (mvb rfl) ?_
  refine l1g rfl (gwt rfl) (fun h => mvb rfl) ?_
  refine l1g rfl (gwt rfl) (fun h => ldw 1 Try.isAgg37 Try.sizeOf37 rfl rfl rfl) ?_
  refine l1g rfl (gwt rfl) (fun h => ldw 2 Try.isAgg37 Try.sizeOf37 rfl rfl rfl) ?_
  refine l1g rfl (gwt rfl) (fun h => cl hb30 rfl (mc (gvt h) (mc (gvt h) mn)) (fun w hw => rlater_calls _ _ w)) ?_
  refine l1g rfl (gwt rfl) (fun h => eqlb Try.underlying4 (gvt h) (gvt h)) ?_
  refine l1 (pk_and rfl rfl rfl) ?_
  refine l1 (mvb rfl) ?_
  refine l1g rfl (gwt rfl) (fun h => mvb rfl) ?_
  refine l1g rfl (gwt rfl) (fun h => nt (gvt h)) ?_
  refine l1g rfl (gwt rfl) (fun h => mvb (gvt h)) ?_
  refine l1g rfl (ggf rfl) (fun h => mvb rfl) ?_
  refine l1g rfl (ggf rfl) (fun h => nt (gvt h)) ?_
  refine l1g rfl (gwt rfl) (fun h => pk_or (gvt h) rfl (gva h)) ?_
  refine l1g rfl (gwt rfl) (fun h => mvb (gvt h)) ?_
  refine l1g rfl (ggf rfl) (fun h => mvb rfl) ?_
  refine l1g rfl (gwt rfl) (fun h => pk_or (gvt h) rfl (gva h)) ?_
  refine l1 (pk_and rfl rfl rfl) ?_
  refine l1 (mvb rfl) ?_
  refine l1g rfl (gwt rfl) (fun h => mvb rfl) ?_
  refine l1g rfl (gwt rfl) (fun h => mvb (gvt h)) ?_
  refine l1g rfl (ggt rfl) (fun h => ldw 1 Try.isAgg37 Try.sizeOf37 rfl rfl rfl) ?_
  refine l1g rfl (ggt rfl) (fun h => ldw 0 Try.isAgg37 Try.sizeOf37 rfl rfl rfl) ?_
  refine l1g rfl (ggt rfl) (fun h => cl hb28 rfl (mc (gvt h) (mc (gvt h) mn)) (fun w hw => later_calls _ _ w)) ?_
  refine l1g rfl (gwt rfl) (fun h => pk_and (gvt h) (gva h) rfl) ?_
  refine l1g rfl (gwt rfl) (fun h => nt (gvt h)) ?_
  refine l1 (pk_and rfl rfl rfl) ?_
  refine l1 (asgb rfl) ?_
  refine lnil ?_
  refine nthen ?_
  refine cret ?_
  exact fin1b rfl rfl (by have h := later_law a b c; simp only [rlater_eq] at *; revert h; cases laterH a b <;> cases laterH b c <;> cases laterH a c <;> cases laterH b a <;> simp)
end Go.Proofs.Ytkdbjhlkahkobaa
