/- walks, printed by a program of ours -/
import Derived.Test.YtkdbjhlkahkobaaTy
import Derived.Test.YtkdbjhlkahkobaaDef
namespace Go.Proofs.Ytkdbjhlkahkobaa
open Jal Go.RowKit
set_option maxRecDepth 100000
theorem writer_calls (n : Int) (w : World) : Calls Try.prog 70 #[.int .i64 n] w (Ret (.bool (writerB n)) w) := by
  refine fn_calls (n := 9) Try.func70 rfl rfl (lb rfl) ?_
  refine cseq ?_
  refine creg ?_
  refine l1 (asgb rfl) ?_
  refine lnil ?_
  refine nthen ?_
  refine cseq ?_
  refine creg ?_
  refine l1 (mvi rfl) ?_
  refine l1 (geq rfl rfl) ?_
  refine l1 (mvb rfl) ?_
  refine l1g rfl (gwt rfl) (fun h => mvi rfl) ?_
  refine l1g rfl (gwt rfl) (fun h => leq (gvt h) rfl) ?_
  refine l1 (pk_and rfl rfl rfl) ?_
  refine l1 (asgb rfl) ?_
  refine lnil ?_
  refine nthen ?_
  refine cret ?_
  exact fin1 rfl rfl

theorem is_calls (g : Grp) (n : Int) (hn : -9223372036854775808 ≤ n ∧ n ≤ 9223372036854775807) (w : World) : Calls Try.prog 34 #[.agg (encG g).toArray, .int .i64 n] w (Ret (.bool (inB g.members n)) w) := by
  refine fn_calls (n := 14) Try.func34 rfl rfl (lb rfl) ?_
  refine cseq ?_
  refine creg ?_
  refine lbxa rfl (fun b1 => ?_)
  refine l1 (asgb rfl) ?_
  refine lnil ?_
  refine nthen ?_
  refine cseq ?_
  refine creg ?_
  refine l1 (mvi rfl) ?_
  refine l1 (cl hb70 rfl (mc rfl mn) (fun w hw => writer_calls _ w)) ?_
  refine l1 (mvb rfl) ?_
  refine l1g rfl (gwt rfl) (fun h => mvi rfl) ?_
  refine l1g rfl (gwt rfl) (fun h => subn (gvt h) rfl (ri (by have := writerB_iff.1 h; omega) (by omega))) ?_
  refine l1g rfl (gwt rfl) (fun h => fa fa43_2 rfl) ?_
  refine l1g rfl (gwt rfl) (fun h => ia ar41 (gvt h) (gvt h) (by have := writerB_iff.1 h; omega) (by have := writerB_iff.1 h; omega)) ?_
  refine l1g rfl (gwt rfl) (fun h => ldc 0 Try.isAgg4 rfl (gvt h) (encG_members g _ (by have := writerB_iff.1 h; omega))) ?_
  refine l1 (pk_and rfl rfl rfl) ?_
  refine l1 (asgb rfl) ?_
  refine lnil ?_
  refine nthen ?_
  refine cret ?_
  exact fin1 rfl rfl

theorem gone_calls (g : Grp) (n : Int) (hn : -9223372036854775808 ≤ n ∧ n ≤ 9223372036854775807) (w : World) : Calls Try.prog 73 #[.agg (encG g).toArray, .int .i64 n] w (Ret (.bool (inB g.gone n)) w) := by
  refine fn_calls (n := 14) Try.func73 rfl rfl (lb rfl) ?_
  refine cseq ?_
  refine creg ?_
  refine lbxa rfl (fun b1 => ?_)
  refine l1 (asgb rfl) ?_
  refine lnil ?_
  refine nthen ?_
  refine cseq ?_
  refine creg ?_
  refine l1 (mvi rfl) ?_
  refine l1 (cl hb70 rfl (mc rfl mn) (fun w hw => writer_calls _ w)) ?_
  refine l1 (mvb rfl) ?_
  refine l1g rfl (gwt rfl) (fun h => mvi rfl) ?_
  refine l1g rfl (gwt rfl) (fun h => subn (gvt h) rfl (ri (by have := writerB_iff.1 h; omega) (by omega))) ?_
  refine l1g rfl (gwt rfl) (fun h => fa fa43_3 rfl) ?_
  refine l1g rfl (gwt rfl) (fun h => ia ar41 (gvt h) (gvt h) (by have := writerB_iff.1 h; omega) (by have := writerB_iff.1 h; omega)) ?_
  refine l1g rfl (gwt rfl) (fun h => ldc 0 Try.isAgg4 rfl (gvt h) (encG_gone g _ (by have := writerB_iff.1 h; omega))) ?_
  refine l1 (pk_and rfl rfl rfl) ?_
  refine l1 (asgb rfl) ?_
  refine lnil ?_
  refine nthen ?_
  refine cret ?_
  exact fin1 rfl rfl

theorem formed_calls (op m : Int) (w : World) : Calls Try.prog 71 #[.int .i64 op, .int .i64 m] w (Ret (.bool (formedB op m)) w) := by
  refine fn_calls (n := 17) Try.func71 rfl rfl (lb rfl) ?_
  refine cseq ?_
  refine creg ?_
  refine l1 (asgb rfl) ?_
  refine lnil ?_
  refine nthen ?_
  refine cseq ?_
  refine cseq ?_
  refine creg ?_
  refine l1 (mvi rfl) ?_
  refine lnil ?_
  refine nthen ?_
  refine cblock ?_
  refine cseq ?_
  refine cseq ?_
  refine creg ?_
  refine l1 (eql rfl rfl) ?_
  refine l1 (asgb rfl) ?_
  refine lnil ?_
  refine nthen ?_
  refine cif rfl (fun h1 => ?_) (fun h1 => ?_)
  · skip
    refine cskip ?_
    refine nthen ?_
    refine cift (bt rfl h1) ?_
    refine cseq ?_
    refine creg ?_
    refine l1 (mvi rfl) ?_
    refine l1 (eql rfl rfl) ?_
    refine l1 (asgb rfl) ?_
    refine lnil ?_
    refine nthen ?_
    refine cret ?_
    refine nblkR ?_
    refine nthenR ?_
    exact fin1b rfl rfl (by first | rfl | (simp only [formedB, h1, cond_true, cond_false]; done))
  · skip
    refine creg ?_
    refine l1 (eql rfl rfl) ?_
    refine l1 (asgb rfl) ?_
    refine lnil ?_
    refine nthen ?_
    refine cif rfl (fun h2 => ?_) (fun h2 => ?_)
    · skip
      refine cseq ?_
      refine creg ?_
      refine l1 (mvi rfl) ?_
      refine l1 (eql rfl rfl) ?_
      refine l1 (asgb rfl) ?_
      refine lnil ?_
      refine nthen ?_
      refine cret ?_
      refine nblkR ?_
      refine nthenR ?_
      exact fin1b rfl rfl (by first | rfl | (simp only [formedB, h1, h2, cond_true, cond_false]; done))
    · skip
      refine cseq ?_
      refine cseq ?_
      refine creg ?_
      refine l1 (eql rfl rfl) ?_
      refine l1 (asgb rfl) ?_
      refine lnil ?_
      refine nthen ?_
      refine cif rfl (fun h3 => ?_) (fun h3 => ?_)
      · skip
        refine cskip ?_
        refine nthen ?_
        refine cift (bt rfl h3) ?_
        refine cseq ?_
        refine creg ?_
        refine l1 (mvi rfl) ?_
        refine l1 (cl hb70 rfl (mc rfl mn) (fun w hw => writer_calls _ w)) ?_
        refine l1 (asgb rfl) ?_
        refine lnil ?_
        refine nthen ?_
        refine cret ?_
        refine nblkR ?_
        refine nthenR ?_
        exact fin1b rfl rfl (by first | rfl | (simp only [formedB, h1, h2, h3, cond_true, cond_false]; done))
      · skip
        refine cseq ?_
        refine creg ?_
        refine l1 (eql rfl rfl) ?_
        refine l1 (asgb rfl) ?_
        refine lnil ?_
        refine nthen ?_
        refine cif rfl (fun h4 => ?_) (fun h4 => ?_)
        · skip
          refine cskip ?_
          refine nthen ?_
          refine cift (bt rfl h4) ?_
          refine cseq ?_
          refine creg ?_
          refine l1 (mvi rfl) ?_
          refine l1 (cl hb70 rfl (mc rfl mn) (fun w hw => writer_calls _ w)) ?_
          refine l1 (asgb rfl) ?_
          refine lnil ?_
          refine nthen ?_
          refine cret ?_
          refine nblkR ?_
          refine nthenR ?_
          exact fin1b rfl rfl (by first | rfl | (simp only [formedB, h1, h2, h3, h4, cond_true, cond_false]; done))
        · skip
          refine creg ?_
          refine l1 (eql rfl rfl) ?_
          refine l1 (asgb rfl) ?_
          refine lnil ?_
          refine nthen ?_
          refine cif rfl (fun h5 => ?_) (fun h5 => ?_)
          · skip
            refine cseq ?_
            refine creg ?_
            refine l1 (mvi rfl) ?_
            refine l1 (cl hb70 rfl (mc rfl mn) (fun w hw => writer_calls _ w)) ?_
            refine l1 (asgb rfl) ?_
            refine lnil ?_
            refine nthen ?_
            refine cret ?_
            refine nblkR ?_
            refine nthenR ?_
            exact fin1b rfl rfl (by first | rfl | (simp only [formedB, h1, h2, h3, h4, h5, cond_true, cond_false]; done))
          · skip
            refine cskip ?_
            refine nblkN ?_
            refine nthen ?_
            refine cseq ?_
            refine creg ?_
            refine l1 (asgb rfl) ?_
            refine lnil ?_
            refine nthen ?_
            refine cret ?_
            exact fin1b rfl rfl (by first | rfl | (simp only [formedB, h1, h2, h3, h4, h5, cond_true, cond_false]; done))

theorem state_calls (g : Grp) (n op m : Int) (hm : -9223372036854775808 ≤ m ∧ m ≤ 9223372036854775807) (w : World) : Calls Try.prog 72 #[.agg (encG g).toArray, .int .i64 n, .int .i64 op, .int .i64 m] w (Ret (.bool (stateB g n op m)) w) := by
  refine fn_calls (n := 43) Try.func72 rfl rfl (lb rfl) ?_
  refine cseq ?_
  refine creg ?_
  refine lbxa rfl (fun b1 => ?_)
  refine l1 (asgb rfl) ?_
  refine lnil ?_
  refine nthen ?_
  refine cseq ?_
  refine cseq ?_
  refine creg ?_
  refine l1 (mvi rfl) ?_
  refine l1 (eql rfl rfl) ?_
  refine lnil ?_
  refine nthen ?_
  refine cif rfl (fun h1 => ?_) (fun h1 => ?_)
  · skip
    refine cseq ?_
    refine creg ?_
    refine l1 (fa fa43_0 rfl) ?_
    refine l1 (ldc 0 Try.isAgg3 rfl rfl rfl) ?_
    refine l1 (eql rfl rfl) ?_
    refine l1 (asgb rfl) ?_
    refine lnil ?_
    refine nthen ?_
    refine cret ?_
    refine nthenR ?_
    exact fin1b rfl rfl (by first | rfl | (simp only [stateB, h1, cond_true, cond_false]; done))
  · skip
    refine cskip ?_
    refine nthen ?_
    refine cseq ?_
    refine cseq ?_
    refine creg ?_
    refine l1 (fa fa43_0 rfl) ?_
    refine l1 (ldc 0 Try.isAgg3 rfl rfl rfl) ?_
    refine l1 (mvi rfl) ?_
    refine l1 (neq rfl rfl) ?_
    refine lnil ?_
    refine nthen ?_
    refine cif rfl (fun h2 => ?_) (fun h2 => ?_)
    · skip
      refine cseq ?_
      refine creg ?_
      refine l1 (asgb rfl) ?_
      refine lnil ?_
      refine nthen ?_
      refine cret ?_
      refine nthenR ?_
      exact fin1b rfl rfl (by first | rfl | (simp only [stateB, h1, h2, cond_true, cond_false]; done))
    · skip
      refine cskip ?_
      refine nthen ?_
      refine cseq ?_
      refine cseq ?_
      refine creg ?_
      refine l1 (mvi rfl) ?_
      refine lnil ?_
      refine nthen ?_
      refine cblock ?_
      refine cseq ?_
      refine creg ?_
      refine l1 (eql rfl rfl) ?_
      refine l1 (asgb rfl) ?_
      refine lnil ?_
      refine nthen ?_
      refine cif rfl (fun h3 => ?_) (fun h3 => ?_)
      · skip
        refine cseq ?_
        refine creg ?_
        refine l1 (ldw 0 Try.isAgg43 Try.sizeOf43 rfl rfl rfl) ?_
        refine l1 (mvi rfl) ?_
        refine l1 (cl hb34 rfl (mc rfl (mc rfl mn)) (fun w hw => is_calls _ _ (by omega) w)) ?_
        refine l1 (nt rfl) ?_
        refine l1 (mvb rfl) ?_
        refine l1g rfl (gwt rfl) (fun h => ldw 0 Try.isAgg43 Try.sizeOf43 rfl rfl rfl) ?_
        refine l1g rfl (gwt rfl) (fun h => mvi rfl) ?_
        refine l1g rfl (gwt rfl) (fun h => cl hb73 rfl (mc (gvt h) (mc (gvt h) mn)) (fun w hw => gone_calls _ _ (by omega) w)) ?_
        refine l1g rfl (gwt rfl) (fun h => nt (gvt h)) ?_
        refine l1 (pk_and rfl rfl rfl) ?_
        refine l1 (asgb rfl) ?_
        refine lnil ?_
        refine nthen ?_
        refine cret ?_
        refine nblkR ?_
        refine nthenR ?_
        exact fin1b rfl rfl (by first | rfl | (simp only [stateB, h1, h2, h3, cond_true, cond_false]; done))
      · skip
        refine cseq ?_
        refine cseq ?_
        refine creg ?_
        refine l1 (eql rfl rfl) ?_
        refine l1 (asgb rfl) ?_
        refine lnil ?_
        refine nthen ?_
        refine cif rfl (fun h4 => ?_) (fun h4 => ?_)
        · skip
          refine cskip ?_
          refine nthen ?_
          refine cift (bt rfl h4) ?_
          refine cseq ?_
          refine creg ?_
          refine l1 (ldw 0 Try.isAgg43 Try.sizeOf43 rfl rfl rfl) ?_
          refine l1 (mvi rfl) ?_
          refine l1 (cl hb34 rfl (mc rfl (mc rfl mn)) (fun w hw => is_calls _ _ (by omega) w)) ?_
          refine l1 (mvb rfl) ?_
          refine l1g rfl (gwt rfl) (fun h => mvi rfl) ?_
          refine l1g rfl (gwt rfl) (fun h => fa fa43_0 rfl) ?_
          refine l1g rfl (gwt rfl) (fun h => ldc 0 Try.isAgg3 rfl (gvt h) rfl) ?_
          refine l1g rfl (gwt rfl) (fun h => neq (gvt h) (gvt h)) ?_
          refine l1 (pk_and rfl rfl rfl) ?_
          refine l1 (asgb rfl) ?_
          refine lnil ?_
          refine nthen ?_
          refine cret ?_
          refine nblkR ?_
          refine nthenR ?_
          exact fin1b rfl rfl (by first | rfl | (simp only [stateB, h1, h2, h3, h4, cond_true, cond_false]; done))
        · skip
          refine creg ?_
          refine l1 (eql rfl rfl) ?_
          refine l1 (asgb rfl) ?_
          refine lnil ?_
          refine nthen ?_
          refine cif rfl (fun h5 => ?_) (fun h5 => ?_)
          · skip
            refine cseq ?_
            refine creg ?_
            refine l1 (ldw 0 Try.isAgg43 Try.sizeOf43 rfl rfl rfl) ?_
            refine l1 (mvi rfl) ?_
            refine l1 (cl hb34 rfl (mc rfl (mc rfl mn)) (fun w hw => is_calls _ _ (by omega) w)) ?_
            refine l1 (mvb rfl) ?_
            refine l1g rfl (gwt rfl) (fun h => mvi rfl) ?_
            refine l1g rfl (gwt rfl) (fun h => fa fa43_0 rfl) ?_
            refine l1g rfl (gwt rfl) (fun h => ldc 0 Try.isAgg3 rfl (gvt h) rfl) ?_
            refine l1g rfl (gwt rfl) (fun h => neq (gvt h) (gvt h)) ?_
            refine l1 (pk_and rfl rfl rfl) ?_
            refine l1 (asgb rfl) ?_
            refine lnil ?_
            refine nthen ?_
            refine cret ?_
            refine nblkR ?_
            refine nthenR ?_
            exact fin1b rfl rfl (by first | rfl | (simp only [stateB, h1, h2, h3, h4, h5, cond_true, cond_false]; done))
          · skip
            refine cskip ?_
            refine nblkN ?_
            refine nthen ?_
            refine cseq ?_
            refine creg ?_
            refine l1 (asgb rfl) ?_
            refine lnil ?_
            refine nthen ?_
            refine cret ?_
            exact fin1b rfl rfl (by first | rfl | (simp only [stateB, h1, h2, h3, h4, h5, cond_true, cond_false]; done))

theorem may_calls (g : Grp) (n op m : Int) (hm : -9223372036854775808 ≤ m ∧ m ≤ 9223372036854775807) (w : World) : Calls Try.prog 32 #[.agg (encG g).toArray, .int .i64 n, .int .i64 op, .int .i64 m] w (Ret (.int .i64 (mayI g n op m)) w) := by
  refine fn_calls (n := 34) Try.func32 rfl rfl (lb rfl) ?_
  refine cseq ?_
  refine creg ?_
  refine lbxa rfl (fun b1 => ?_)
  refine l1 (asgi rfl) ?_
  refine lnil ?_
  refine nthen ?_
  refine cseq ?_
  refine cblock ?_
  refine cseq ?_
  refine creg ?_
  refine l1 (mvi rfl) ?_
  refine l1 (cl hb70 rfl (mc rfl mn) (fun w hw => writer_calls _ w)) ?_
  refine l1 (nt rfl) ?_
  refine l1 (mvb rfl) ?_
  refine l1g rfl (gwf rfl) (fun h => mvi rfl) ?_
  refine l1g rfl (gwf rfl) (fun h => mvi rfl) ?_
  refine l1g rfl (gwf rfl) (fun h => cl hb71 rfl (mc (gvt h) (mc (gvt h) mn)) (fun w hw => formed_calls _ _ w)) ?_
  refine l1g rfl (gwf rfl) (fun h => nt (gvt h)) ?_
  refine l1 (pk_or rfl rfl rfl) ?_
  refine l1 (asgb rfl) ?_
  refine lnil ?_
  refine nthen ?_
  refine cif rfl (fun h1 => ?_) (fun h1 => ?_)
  · skip
    refine cseq ?_
    refine creg ?_
    refine l1 (asgi rfl) ?_
    refine lnil ?_
    refine nthen ?_
    refine cret ?_
    refine nblkR ?_
    refine nthenR ?_
    exact fin1i rfl rfl (by first | rfl | (simp only [mayI, h1, cond_true, cond_false]; done))
  · skip
    refine cseq ?_
    refine creg ?_
    refine l1 (ldw 0 Try.isAgg43 Try.sizeOf43 rfl rfl rfl) ?_
    refine l1 (mvi rfl) ?_
    refine l1 (mvi rfl) ?_
    refine l1 (mvi rfl) ?_
    refine l1 (cl hb72 rfl (mc rfl (mc rfl (mc rfl (mc rfl mn)))) (fun w hw => state_calls _ _ _ _ (by omega) w)) ?_
    refine l1 (nt rfl) ?_
    refine l1 (asgb rfl) ?_
    refine lnil ?_
    refine nthen ?_
    refine cif rfl (fun h2 => ?_) (fun h2 => ?_)
    · skip
      refine cseq ?_
      refine creg ?_
      refine l1 (asgi rfl) ?_
      refine lnil ?_
      refine nthen ?_
      refine cret ?_
      refine nblkR ?_
      refine nthenR ?_
      exact fin1i rfl rfl (by first | rfl | (simp only [mayI, h1, h2, cond_true, cond_false]; done))
    · skip
      refine cseq ?_
      refine creg ?_
      refine l1 (mvi rfl) ?_
      refine l1 (neq rfl rfl) ?_
      refine l1 (mvb rfl) ?_
      refine l1g rfl (gwt rfl) (fun h => fa fa43_1 rfl) ?_
      refine l1g rfl (gwt rfl) (fun h => ldc 0 Try.isAgg3 rfl (gvt h) rfl) ?_
      refine l1g rfl (gwt rfl) (fun h => geq (gvt h) rfl) ?_
      refine l1 (pk_and rfl rfl rfl) ?_
      refine l1 (asgb rfl) ?_
      refine lnil ?_
      refine nthen ?_
      refine cif rfl (fun h3 => ?_) (fun h3 => ?_)
      · skip
        refine cseq ?_
        refine creg ?_
        refine l1 (asgi rfl) ?_
        refine lnil ?_
        refine nthen ?_
        refine cret ?_
        refine nblkR ?_
        refine nthenR ?_
        exact fin1i rfl rfl (by first | rfl | (simp only [mayI, h1, h2, h3, cond_true, cond_false]; done))
      · skip
        refine cskip ?_
        refine nblkN ?_
        refine nthen ?_
        refine cseq ?_
        refine creg ?_
        refine l1 (asgi rfl) ?_
        refine lnil ?_
        refine nthen ?_
        refine cret ?_
        exact fin1i rfl rfl (by first | rfl | (simp only [mayI, h1, h2, h3, cond_true, cond_false]; done))

theorem counts_calls (g : Grp) (n seq : Int) (hn : -9223372036854775808 ≤ n ∧ n ≤ 9223372036854775807) (w : World) : Calls Try.prog 35 #[.agg (encG g).toArray, .int .i64 n, .int .u64 seq] w (Ret (.bool (countsB g n seq)) w) := by
  refine fn_calls (n := 24) Try.func35 rfl rfl (lb rfl) ?_
  refine cseq ?_
  refine creg ?_
  refine lbxa rfl (fun b1 => ?_)
  refine l1 (asgb rfl) ?_
  refine lnil ?_
  refine nthen ?_
  refine cseq ?_
  refine creg ?_
  refine l1 (ldw 0 Try.isAgg43 Try.sizeOf43 rfl rfl rfl) ?_
  refine l1 (mvi rfl) ?_
  refine l1 (cl hb34 rfl (mc rfl (mc rfl mn)) (fun w hw => is_calls _ _ (by omega) w)) ?_
  refine l1 (mvb rfl) ?_
  refine l1g rfl (gwf rfl) (fun h => ldw 0 Try.isAgg43 Try.sizeOf43 rfl rfl rfl) ?_
  refine l1g rfl (gwf rfl) (fun h => mvi rfl) ?_
  refine l1g rfl (gwf rfl) (fun h => cl hb73 rfl (mc (gvt h) (mc (gvt h) mn)) (fun w hw => gone_calls _ _ (by omega) w)) ?_
  refine l1g rfl (gwf rfl) (fun h => mvb (gvt h)) ?_
  refine l1g rfl (ggt rfl) (fun h => mvi rfl) ?_
  refine l1g rfl (ggt rfl) (fun h => mvi rfl) ?_
  refine l1g rfl (ggt rfl) (fun h => subn (gvt h) rfl (ri (by have := inB_w (al2 h); omega) (by omega))) ?_
  refine l1g rfl (ggt rfl) (fun h => fa fa43_4 rfl) ?_
  refine l1g rfl (ggt rfl) (fun h => ia ar23 (gvt h) (gvt h) (by have := inB_w (al2 h); omega) (by have := inB_w (al2 h); omega)) ?_
  refine l1g rfl (ggt rfl) (fun h => ldc 0 Try.isAgg22 rfl (gvt h) (encG_cut g _ (by have := inB_w (al2 h); omega))) ?_
  refine l1g rfl (ggt rfl) (fun h => leq (gvt h) (gvt h)) ?_
  refine l1g rfl (gwf rfl) (fun h => pk_and (gvt h) (gva h) rfl) ?_
  refine l1 (pk_or rfl rfl rfl) ?_
  refine l1 (asgb rfl) ?_
  refine lnil ?_
  refine nthen ?_
  refine cret ?_
  exact fin1 rfl rfl

theorem behind_calls (g : Grp) (n op m cut : Int) (w : World) : Calls Try.prog 33 #[.agg (encG g).toArray, .int .i64 n, .int .i64 op, .int .i64 m, .int .u64 cut] w (Ret (.agg (encG (behindG g n op m cut)).toArray) w) := by
  refine fn_calls (n := 65) Try.func33 rfl rfl (lb rfl) ?_
  refine cseq ?_
  refine creg ?_
  refine lbxa rfl (fun b1 => ?_)
  refine lal Try.zeroValue43 rfl (fun b2 => ?_)
  refine lnil ?_
  refine nthen ?_
  refine cseq ?_
  refine cseq ?_
  refine creg ?_
  refine l1 (mvi rfl) ?_
  refine l1 (cl hb70 rfl (mc rfl mn) (fun w hw => writer_calls _ w)) ?_
  refine l1 (nt rfl) ?_
  refine l1 (mvb rfl) ?_
  refine l1g rfl (gwf rfl) (fun h => mvi rfl) ?_
  refine l1g rfl (gwf rfl) (fun h => mvi rfl) ?_
  refine l1g rfl (gwf rfl) (fun h => cl hb71 rfl (mc (gvt h) (mc (gvt h) mn)) (fun w hw => formed_calls _ _ w)) ?_
  refine l1g rfl (gwf rfl) (fun h => nt (gvt h)) ?_
  refine l1 (pk_or rfl rfl rfl) ?_
  refine lnil ?_
  refine nthen ?_
  refine cif rfl (fun h1 => ?_) (fun h1 => ?_)
  · try (obtain ⟨hw, hf⟩ := orf h1; have hb := writerB_iff.1 hw)
    refine cseq ?_
    refine creg ?_
    refine l1 (ldw 0 Try.isAgg43 Try.sizeOf43 rfl rfl rfl) ?_
    refine lstw 1 rfl rfl rfl Try.sizeOf43 rfl rfl rfl ?_
    refine lnil ?_
    refine nthen ?_
    refine cret ?_
    refine nthenR ?_
    exact finc 1 rfl Try.isAgg43 Try.sizeOf43 rfl rfl rfl (by simp only [behindG, h1, cond_true, cond_false]; try rfl)
  · try (obtain ⟨hw, hf⟩ := orf h1; have hb := writerB_iff.1 hw)
    refine cskip ?_
    refine nthen ?_
    refine cseq ?_
    refine creg ?_
    refine l1 (fa fa43_5 rfl) ?_
    refine l1 (ldc 0 Try.isAgg3 rfl rfl rfl) ?_
    first | refine l1 (addn rfl rfl (ri (by omega) (by omega))) ?_ | refine l1 (add rfl rfl) ?_
    refine l1 (fa fa43_5 rfl) ?_
    refine lsti 0 rfl rfl rfl Try.sizeOf3 (lb rfl) (cs' := encG (bumpSeen g)) rfl ?_
    refine lnil ?_
    refine nthen ?_
    refine cseq ?_
    refine cseq ?_
    refine creg ?_
    refine l1 (mvi rfl) ?_
    refine lnil ?_
    refine nthen ?_
    refine cblock ?_
    refine cseq ?_
    refine creg ?_
    refine l1 (eql rfl rfl) ?_
    refine l1 (asgb rfl) ?_
    refine lnil ?_
    refine nthen ?_
    refine cif rfl (fun h2 => ?_) (fun h2 => ?_)
    · skip
      refine cseq ?_
      refine creg ?_
      refine l1 (mvi rfl) ?_
      refine l1 (fa fa43_0 rfl) ?_
      refine lsti 0 rfl rfl rfl Try.sizeOf3 (lb rfl) (cs' := encG { bumpSeen g with owner := m }) rfl ?_
      refine lnil ?_
      refine nthen ?_
      refine cseq ?_
      refine creg ?_
      refine l1 (ldw 0 Try.isAgg43 Try.sizeOf43 rfl rfl rfl) ?_
      refine lstw 1 rfl rfl rfl Try.sizeOf43 rfl rfl rfl ?_
      refine lnil ?_
      refine nthen ?_
      refine cret ?_
      refine nblkR ?_
      refine nthenR ?_
      exact finc 1 rfl Try.isAgg43 Try.sizeOf43 rfl rfl rfl (by simp only [behindG, h1, h2, cond_true, cond_false]; try rfl)
    · skip
      refine cseq ?_
      refine creg ?_
      refine l1 (eql rfl rfl) ?_
      refine l1 (asgb rfl) ?_
      refine lnil ?_
      refine nthen ?_
      refine cif rfl (fun h3 => ?_) (fun h3 => ?_)
      · skip
        refine cseq ?_
        refine creg ?_
        refine l1 (mvi rfl) ?_
        refine l1 (fa fa43_0 rfl) ?_
        refine lsti 0 rfl rfl rfl Try.sizeOf3 (lb rfl) (cs' := encG { bumpSeen g with owner := n }) rfl ?_
        refine lnil ?_
        refine nthen ?_
        refine creg ?_
        refine l1 (mvi rfl) ?_
        first | refine l1 (subn rfl rfl (ri (by omega) (by omega))) ?_ | refine l1 (sub rfl rfl) ?_
        refine l1 (fa fa43_2 rfl) ?_
        refine l1 (ia ar41 rfl rfl (by omega) (by omega)) ?_
        refine lstb 0 rfl rfl rfl Try.sizeOf4 (by rw [encG_len]; omega) (encG_setM _ _ _ (by omega)) ?_
        refine lnil ?_
        refine nblkN ?_
        refine nthen ?_
        refine cseq ?_
        refine creg ?_
        refine l1 (fa fa43_1 rfl) ?_
        refine l1 (ldc 0 Try.isAgg3 rfl rfl rfl) ?_
        first | refine l1 (addn rfl rfl (ri (by omega) (by omega))) ?_ | refine l1 (add rfl rfl) ?_
        refine l1 (fa fa43_1 rfl) ?_
        refine lsti 0 rfl rfl rfl Try.sizeOf3 (lb rfl) (cs' := encG (bumpEpoch ({ { bumpSeen g with owner := n } with members := ub g.members (n - 1).toNat true }))) rfl ?_
        refine lnil ?_
        refine nthen ?_
        refine cseq ?_
        refine creg ?_
        refine l1 (ldw 0 Try.isAgg43 Try.sizeOf43 rfl rfl rfl) ?_
        refine lstw 1 rfl rfl rfl Try.sizeOf43 rfl rfl rfl ?_
        refine lnil ?_
        refine nthen ?_
        refine cret ?_
        exact finc 1 rfl Try.isAgg43 Try.sizeOf43 rfl rfl rfl (by simp only [behindG, h1, h2, h3, cond_true, cond_false]; try rfl)
      · skip
        refine cseq ?_
        refine creg ?_
        refine l1 (eql rfl rfl) ?_
        refine l1 (asgb rfl) ?_
        refine lnil ?_
        refine nthen ?_
        refine cif rfl (fun h4 => ?_) (fun h4 => ?_)
        · try have hm := formed_writer hf (Or.inl (dt h4))
          refine creg ?_
          refine l1 (mvi rfl) ?_
          first | refine l1 (subn rfl rfl (ri (by omega) (by omega))) ?_ | refine l1 (sub rfl rfl) ?_
          refine l1 (fa fa43_2 rfl) ?_
          refine l1 (ia ar41 rfl rfl (by omega) (by omega)) ?_
          refine lstb 0 rfl rfl rfl Try.sizeOf4 (by rw [encG_len]; omega) (encG_setM _ _ _ (by omega)) ?_
          refine lnil ?_
          refine nblkN ?_
          refine nthen ?_
          refine cseq ?_
          refine creg ?_
          refine l1 (fa fa43_1 rfl) ?_
          refine l1 (ldc 0 Try.isAgg3 rfl rfl rfl) ?_
          first | refine l1 (addn rfl rfl (ri (by omega) (by omega))) ?_ | refine l1 (add rfl rfl) ?_
          refine l1 (fa fa43_1 rfl) ?_
          refine lsti 0 rfl rfl rfl Try.sizeOf3 (lb rfl) (cs' := encG (bumpEpoch ({ bumpSeen g with members := ub g.members (m - 1).toNat true }))) rfl ?_
          refine lnil ?_
          refine nthen ?_
          refine cseq ?_
          refine creg ?_
          refine l1 (ldw 0 Try.isAgg43 Try.sizeOf43 rfl rfl rfl) ?_
          refine lstw 1 rfl rfl rfl Try.sizeOf43 rfl rfl rfl ?_
          refine lnil ?_
          refine nthen ?_
          refine cret ?_
          exact finc 1 rfl Try.isAgg43 Try.sizeOf43 rfl rfl rfl (by simp only [behindG, h1, h2, h3, h4, cond_true, cond_false]; try rfl)
        · try have hm := formed_writer hf (Or.inl (dt h4))
          refine cseq ?_
          refine creg ?_
          refine l1 (eql rfl rfl) ?_
          refine l1 (asgb rfl) ?_
          refine lnil ?_
          refine nthen ?_
          refine cif rfl (fun h5 => ?_) (fun h5 => ?_)
          · try have hm := formed_writer hf (Or.inr (Or.inl (dt h5)))
            refine creg ?_
            refine l1 (mvi rfl) ?_
            first | refine l1 (subn rfl rfl (ri (by omega) (by omega))) ?_ | refine l1 (sub rfl rfl) ?_
            refine l1 (mvi rfl) ?_
            first | refine l1 (subn rfl rfl (ri (by omega) (by omega))) ?_ | refine l1 (sub rfl rfl) ?_
            refine l1 (mvi rfl) ?_
            first | refine l1 (subn rfl rfl (ri (by omega) (by omega))) ?_ | refine l1 (sub rfl rfl) ?_
            refine l1 (mvi rfl) ?_
            refine l1 (fa fa43_2 rfl) ?_
            refine l1 (ia ar41 rfl rfl (by omega) (by omega)) ?_
            refine lstb 0 rfl rfl rfl Try.sizeOf4 (by rw [encG_len]; omega) (encG_setM _ _ _ (by omega)) ?_
            refine l1 (fa fa43_3 rfl) ?_
            refine l1 (ia ar41 rfl rfl (by omega) (by omega)) ?_
            refine lstb 0 rfl rfl rfl Try.sizeOf4 (by rw [encG_len]; omega) (encG_setG _ _ _ (by omega)) ?_
            refine l1 (fa fa43_4 rfl) ?_
            refine l1 (ia ar23 rfl rfl (by omega) (by omega)) ?_
            refine lsti 0 rfl rfl rfl Try.sizeOf22 (by rw [encG_len]; omega) (encG_setC _ _ _ (by omega)) ?_
            refine lnil ?_
            refine nblkN ?_
            refine nthen ?_
            refine cseq ?_
            refine creg ?_
            refine l1 (fa fa43_1 rfl) ?_
            refine l1 (ldc 0 Try.isAgg3 rfl rfl rfl) ?_
            first | refine l1 (addn rfl rfl (ri (by omega) (by omega))) ?_ | refine l1 (add rfl rfl) ?_
            refine l1 (fa fa43_1 rfl) ?_
            refine lsti 0 rfl rfl rfl Try.sizeOf3 (lb rfl) (cs' := encG (bumpEpoch ({ { { bumpSeen g with members := ub g.members (m - 1).toNat false } with gone := ub g.gone (m - 1).toNat true } with cut := ui g.cut (m - 1).toNat cut }))) rfl ?_
            refine lnil ?_
            refine nthen ?_
            refine cseq ?_
            refine creg ?_
            refine l1 (ldw 0 Try.isAgg43 Try.sizeOf43 rfl rfl rfl) ?_
            refine lstw 1 rfl rfl rfl Try.sizeOf43 rfl rfl rfl ?_
            refine lnil ?_
            refine nthen ?_
            refine cret ?_
            exact finc 1 rfl Try.isAgg43 Try.sizeOf43 rfl rfl rfl (by simp only [behindG, h1, h2, h3, h4, h5, cond_true, cond_false]; try rfl)
          · try have hm := formed_writer hf (Or.inr (Or.inl (dt h5)))
            refine cskip ?_
            refine nblkN ?_
            refine nthen ?_
            refine cseq ?_
            refine creg ?_
            refine l1 (fa fa43_1 rfl) ?_
            refine l1 (ldc 0 Try.isAgg3 rfl rfl rfl) ?_
            first | refine l1 (addn rfl rfl (ri (by omega) (by omega))) ?_ | refine l1 (add rfl rfl) ?_
            refine l1 (fa fa43_1 rfl) ?_
            refine lsti 0 rfl rfl rfl Try.sizeOf3 (lb rfl) (cs' := encG (bumpEpoch (bumpSeen g))) rfl ?_
            refine lnil ?_
            refine nthen ?_
            refine cseq ?_
            refine creg ?_
            refine l1 (ldw 0 Try.isAgg43 Try.sizeOf43 rfl rfl rfl) ?_
            refine lstw 1 rfl rfl rfl Try.sizeOf43 rfl rfl rfl ?_
            refine lnil ?_
            refine nthen ?_
            refine cret ?_
            exact finc 1 rfl Try.isAgg43 Try.sizeOf43 rfl rfl rfl (by simp only [behindG, h1, h2, h3, h4, h5, cond_true, cond_false]; try rfl)

theorem rin_calls (m : Nat → Bool) (n : Int) (hn : -9223372036854775808 ≤ n ∧ n ≤ 9223372036854775807) (w : World) : Calls Try.prog 75 #[.agg (barr 6 m).toArray, .int .i64 n] w (Ret (.bool (inB m n)) w) := by
  refine fn_calls (n := 17) Try.func75 rfl rfl (lb rfl) ?_
  refine cseq ?_
  refine creg ?_
  refine lbxa rfl (fun b1 => ?_)
  refine l1 (asgb rfl) ?_
  refine lnil ?_
  refine nthen ?_
  refine cseq ?_
  refine creg ?_
  refine l1 (mvi rfl) ?_
  refine l1 (geq rfl rfl) ?_
  refine l1 (mvb rfl) ?_
  refine l1g rfl (gwt rfl) (fun h => mvi rfl) ?_
  refine l1g rfl (gwt rfl) (fun h => leq (gvt h) rfl) ?_
  refine l1 (pk_and rfl rfl rfl) ?_
  refine l1 (mvb rfl) ?_
  refine l1g rfl (gwt rfl) (fun h => mvi rfl) ?_
  refine l1g rfl (gwt rfl) (fun h => subn (gvt h) rfl (ri (by have := writerB_iff.1 h; omega) (by omega))) ?_
  refine l1g rfl (gwt rfl) (fun h => ia ar41 rfl (gvt h) (by have := writerB_iff.1 h; omega) (by have := writerB_iff.1 h; omega)) ?_
  refine l1g rfl (gwt rfl) (fun h => ldc 0 Try.isAgg4 rfl (gvt h) (barr_get m _ (by have := writerB_iff.1 h; omega))) ?_
  refine l1 (pk_and rfl rfl rfl) ?_
  refine l1 (asgb rfl) ?_
  refine lnil ?_
  refine nthen ?_
  refine cret ?_
  exact fin1 rfl rfl

theorem wrong_calls (n op m : Int) (w : World) : Calls Try.prog 74 #[.int .i64 n, .int .i64 op, .int .i64 m] w (Ret (.bool (wrongB n op m)) w) := by
  refine fn_calls (n := 51) Try.func74 rfl rfl (lb rfl) ?_
  refine cseq ?_
  refine creg ?_
  refine l1 (asgb rfl) ?_
  refine lnil ?_
  refine nthen ?_
  refine cseq ?_
  refine creg ?_
  refine l1 (mvi rfl) ?_
  refine l1 (eql rfl rfl) ?_
  refine l1 (mvb rfl) ?_
  refine l1g rfl (gwf rfl) (fun h => mvi rfl) ?_
  refine l1g rfl (gwf rfl) (fun h => eql (gvt h) rfl) ?_
  refine l1 (pk_or rfl rfl rfl) ?_
  refine l1 (mvb rfl) ?_
  refine l1g rfl (gwf rfl) (fun h => mvi rfl) ?_
  refine l1g rfl (gwf rfl) (fun h => eql (gvt h) rfl) ?_
  refine l1 (pk_or rfl rfl rfl) ?_
  refine l1 (asgb rfl) ?_
  refine lnil ?_
  refine nthen ?_
  refine cseq ?_
  refine creg ?_
  refine l1 (mvi rfl) ?_
  refine l1 (lss rfl rfl) ?_
  refine l1 (mvb rfl) ?_
  refine l1g rfl (gwf rfl) (fun h => mvi rfl) ?_
  refine l1g rfl (gwf rfl) (fun h => gtr (gvt h) rfl) ?_
  refine l1 (pk_or rfl rfl rfl) ?_
  refine l1 (mvb rfl) ?_
  refine l1g rfl (gwf rfl) (fun h => mvi rfl) ?_
  refine l1g rfl (gwf rfl) (fun h => lss (gvt h) rfl) ?_
  refine l1 (pk_or rfl rfl rfl) ?_
  refine l1 (mvb rfl) ?_
  refine l1g rfl (gwf rfl) (fun h => mvi rfl) ?_
  refine l1g rfl (gwf rfl) (fun h => gtr (gvt h) rfl) ?_
  refine l1 (pk_or rfl rfl rfl) ?_
  refine l1 (mvb rfl) ?_
  refine l1g rfl (gwf rfl) (fun h => mvb rfl) ?_
  refine l1g rfl (gwf rfl) (fun h => mvb (gvt h)) ?_
  refine l1g rfl (ggt rfl) (fun h => mvi rfl) ?_
  refine l1g rfl (ggt rfl) (fun h => lss (gvt h) rfl) ?_
  refine l1g rfl (ggt rfl) (fun h => mvb (gvt h)) ?_
  refine l1g rfl (ggf rfl) (fun h => mvi rfl) ?_
  refine l1g rfl (ggf rfl) (fun h => gtr (gvt h) rfl) ?_
  refine l1g rfl (ggt rfl) (fun h => pk_or (gvt h) rfl (gva h)) ?_
  refine l1g rfl (gwf rfl) (fun h => pk_and (gvt h) (gva h) rfl) ?_
  refine l1 (pk_or rfl rfl rfl) ?_
  refine l1 (mvb rfl) ?_
  refine l1g rfl (gwf rfl) (fun h => mvb rfl) ?_
  refine l1g rfl (gwf rfl) (fun h => nt (gvt h)) ?_
  refine l1g rfl (gwf rfl) (fun h => mvb (gvt h)) ?_
  refine l1g rfl (ggt rfl) (fun h => mvi rfl) ?_
  refine l1g rfl (ggt rfl) (fun h => neq (gvt h) rfl) ?_
  refine l1g rfl (gwf rfl) (fun h => pk_and (gvt h) (gva h) rfl) ?_
  refine l1 (pk_or rfl rfl rfl) ?_
  refine l1 (asgb rfl) ?_
  refine lnil ?_
  refine nthen ?_
  refine cret ?_
  exact fin1 rfl rfl

theorem rmay_calls (g : Grp) (n op m : Int) (hm : -9223372036854775808 ≤ m ∧ m ≤ 9223372036854775807) (w : World) : Calls Try.prog 36 #[.agg (encG g).toArray, .int .i64 n, .int .i64 op, .int .i64 m] w (Ret (.int .i64 (rmayI g n op m)) w) := by
  refine fn_calls (n := 78) Try.func36 rfl rfl (lb rfl) ?_
  refine cseq ?_
  refine creg ?_
  refine lbxa rfl (fun b1 => ?_)
  refine l1 (asgi rfl) ?_
  refine lnil ?_
  refine nthen ?_
  refine cseq ?_
  refine cseq ?_
  refine creg ?_
  refine l1 (mvi rfl) ?_
  refine l1 (mvi rfl) ?_
  refine l1 (mvi rfl) ?_
  refine l1 (cl hb74 rfl (mc rfl (mc rfl (mc rfl mn))) (fun w hw => wrong_calls _ _ _ w)) ?_
  refine lnil ?_
  refine nthen ?_
  refine cif rfl (fun h1 => ?_) (fun h1 => ?_)
  · skip
    refine cseq ?_
    refine creg ?_
    refine l1 (asgi rfl) ?_
    refine lnil ?_
    refine nthen ?_
    refine cret ?_
    refine nthenR ?_
    exact fin1i rfl rfl (by first | rfl | (simp only [rmayI, h1, cond_true, cond_false]; done))
  · skip
    refine cskip ?_
    refine nthen ?_
    refine cseq ?_
    refine creg ?_
    refine l1 (mvi rfl) ?_
    refine l1 (eql rfl rfl) ?_
    refine l1 (mvb rfl) ?_
    refine l1g rfl (gwt rfl) (fun h => fa fa43_0 rfl) ?_
    refine l1g rfl (gwt rfl) (fun h => ldc 0 Try.isAgg3 rfl (gvt h) rfl) ?_
    refine l1g rfl (gwt rfl) (fun h => neq (gvt h) rfl) ?_
    refine l1 (pk_and rfl rfl rfl) ?_
    refine l1 (mvb rfl) ?_
    refine l1g rfl (gwf rfl) (fun h => mvi rfl) ?_
    refine l1g rfl (gwf rfl) (fun h => neq (gvt h) rfl) ?_
    refine l1g rfl (gwf rfl) (fun h => mvb (gvt h)) ?_
    refine l1g rfl (ggt rfl) (fun h => fa fa43_0 rfl) ?_
    refine l1g rfl (ggt rfl) (fun h => ldc 0 Try.isAgg3 rfl (gvt h) rfl) ?_
    refine l1g rfl (ggt rfl) (fun h => mvi rfl) ?_
    refine l1g rfl (ggt rfl) (fun h => neq (gvt h) (gvt h)) ?_
    refine l1g rfl (gwf rfl) (fun h => pk_and (gvt h) (gva h) rfl) ?_
    refine l1 (pk_or rfl rfl rfl) ?_
    refine l1 (asgb rfl) ?_
    refine lnil ?_
    refine nthen ?_
    refine cseq ?_
    refine creg ?_
    refine l1 (mvb rfl) ?_
    refine l1 (mvb rfl) ?_
    refine l1g rfl (gwf rfl) (fun h => mvi rfl) ?_
    refine l1g rfl (gwf rfl) (fun h => eql (gvt h) rfl) ?_
    refine l1g rfl (gwf rfl) (fun h => mvb (gvt h)) ?_
    refine l1g rfl (ggt rfl) (fun h => fa fa43_2 rfl) ?_
    refine l1g rfl (ggt rfl) (fun h => lda (vs := barr 6 g.members) 0 Try.isAgg41 Try.sizeOf41 rfl (gvt h) rfl rfl) ?_
    refine l1g rfl (ggt rfl) (fun h => mvi rfl) ?_
    refine l1g rfl (ggt rfl) (fun h => cl hb75 rfl (mc (gvt h) (mc (gvt h) mn)) (fun w hw => rin_calls _ _ (by omega) w)) ?_
    refine l1g rfl (ggt rfl) (fun h => mvb (gvt h)) ?_
    refine l1g rfl (ggf rfl) (fun h => fa fa43_3 rfl) ?_
    refine l1g rfl (ggf rfl) (fun h => lda (vs := barr 6 g.gone) 0 Try.isAgg41 Try.sizeOf41 rfl (gvt h) rfl rfl) ?_
    refine l1g rfl (ggf rfl) (fun h => mvi rfl) ?_
    refine l1g rfl (ggf rfl) (fun h => cl hb75 rfl (mc (gvt h) (mc (gvt h) mn)) (fun w hw => rin_calls _ _ (by omega) w)) ?_
    refine l1g rfl (ggt rfl) (fun h => pk_or (gvt h) rfl (gva h)) ?_
    refine l1g rfl (gwf rfl) (fun h => pk_and (gvt h) (gva h) rfl) ?_
    refine l1 (pk_or rfl rfl rfl) ?_
    refine l1 (asgb rfl) ?_
    refine lnil ?_
    refine nthen ?_
    refine cseq ?_
    refine creg ?_
    refine l1 (mvb rfl) ?_
    refine l1 (mvb rfl) ?_
    refine l1g rfl (gwf rfl) (fun h => mvi rfl) ?_
    refine l1g rfl (gwf rfl) (fun h => eql (gvt h) rfl) ?_
    refine l1g rfl (gwf rfl) (fun h => mvb (gvt h)) ?_
    refine l1g rfl (ggf rfl) (fun h => mvi rfl) ?_
    refine l1g rfl (ggf rfl) (fun h => eql (gvt h) rfl) ?_
    refine l1g rfl (gwf rfl) (fun h => pk_or (gvt h) rfl (gva h)) ?_
    refine l1g rfl (gwf rfl) (fun h => mvb (gvt h)) ?_
    refine l1g rfl (ggt rfl) (fun h => fa fa43_2 rfl) ?_
    refine l1g rfl (ggt rfl) (fun h => lda (vs := barr 6 g.members) 0 Try.isAgg41 Try.sizeOf41 rfl (gvt h) rfl rfl) ?_
    refine l1g rfl (ggt rfl) (fun h => mvi rfl) ?_
    refine l1g rfl (ggt rfl) (fun h => cl hb75 rfl (mc (gvt h) (mc (gvt h) mn)) (fun w hw => rin_calls _ _ (by omega) w)) ?_
    refine l1g rfl (ggt rfl) (fun h => nt (gvt h)) ?_
    refine l1g rfl (ggt rfl) (fun h => mvb (gvt h)) ?_
    refine l1g rfl (ggf rfl) (fun h => mvi rfl) ?_
    refine l1g rfl (ggf rfl) (fun h => fa fa43_0 rfl) ?_
    refine l1g rfl (ggf rfl) (fun h => ldc 0 Try.isAgg3 rfl (gvt h) rfl) ?_
    refine l1g rfl (ggf rfl) (fun h => eql (gvt h) (gvt h)) ?_
    refine l1g rfl (ggt rfl) (fun h => pk_or (gvt h) rfl (gva h)) ?_
    refine l1g rfl (gwf rfl) (fun h => pk_and (gvt h) (gva h) rfl) ?_
    refine l1 (pk_or rfl rfl rfl) ?_
    refine l1 (asgb rfl) ?_
    refine lnil ?_
    refine nthen ?_
    refine cseq ?_
    refine cseq ?_
    refine creg ?_
    refine l1 (mvb rfl) ?_
    refine lnil ?_
    refine nthen ?_
    refine cif rfl (fun h2 => ?_) (fun h2 => ?_)
    · change badB g n op m = _ at h2
      refine cseq ?_
      refine creg ?_
      refine l1 (asgi rfl) ?_
      refine lnil ?_
      refine nthen ?_
      refine cret ?_
      refine nthenR ?_
      exact fin1i rfl rfl (by first | rfl | (simp only [rmayI, h1, h2, cond_true, cond_false]; done))
    · change badB g n op m = _ at h2
      refine cskip ?_
      refine nthen ?_
      refine cseq ?_
      refine cseq ?_
      refine creg ?_
      refine l1 (mvi rfl) ?_
      refine l1 (neq rfl rfl) ?_
      refine l1 (mvb rfl) ?_
      refine l1g rfl (gwt rfl) (fun h => fa fa43_1 rfl) ?_
      refine l1g rfl (gwt rfl) (fun h => ldc 0 Try.isAgg3 rfl (gvt h) rfl) ?_
      refine l1g rfl (gwt rfl) (fun h => geq (gvt h) rfl) ?_
      refine l1 (pk_and rfl rfl rfl) ?_
      refine lnil ?_
      refine nthen ?_
      refine cif rfl (fun h3 => ?_) (fun h3 => ?_)
      · skip
        refine cseq ?_
        refine creg ?_
        refine l1 (asgi rfl) ?_
        refine lnil ?_
        refine nthen ?_
        refine cret ?_
        refine nthenR ?_
        exact fin1i rfl rfl (by first | rfl | (simp only [rmayI, h1, h2, h3, cond_true, cond_false]; done))
      · skip
        refine cskip ?_
        refine nthen ?_
        refine cseq ?_
        refine creg ?_
        refine l1 (asgi rfl) ?_
        refine lnil ?_
        refine nthen ?_
        refine cret ?_
        exact fin1i rfl rfl (by first | rfl | (simp only [rmayI, h1, h2, h3, cond_true, cond_false]; done))

theorem rbehind1_calls (g : Grp) (n m cut : Int) (hw : wrongB n 1 m = false) (hb : 1 ≤ n ∧ n ≤ 6) (w : World) : Calls Try.prog 37 #[.agg (encG g).toArray, .int .i64 n, .int .i64 1, .int .i64 m, .int .u64 cut] w (Ret (.agg (encG (behindG g n 1 m cut)).toArray) w) := by
  refine fn_calls (n := 62) Try.func37 rfl rfl (lb rfl) ?_
  refine cseq ?_
  refine creg ?_
  refine lbxa rfl (fun b1 => ?_)
  refine lal Try.zeroValue43 rfl (fun b2 => ?_)
  refine lnil ?_
  refine nthen ?_
  refine cseq ?_
  refine cseq ?_
  refine creg ?_
  refine l1 (mvi rfl) ?_
  refine l1 (mvi rfl) ?_
  refine l1 (mvi rfl) ?_
  refine l1 (cl hb74 rfl (mc rfl (mc rfl (mc rfl mn))) (fun w hw => wrong_calls _ _ _ w)) ?_
  refine lnil ?_
  refine nthen ?_
  refine ciff (bf rfl hw) ?_
  refine cskip ?_
  refine nthen ?_
  refine cseq ?_
  refine creg ?_
  refine l1 (ldw 0 Try.isAgg43 Try.sizeOf43 rfl rfl rfl) ?_
  refine lal Try.zeroValue43 rfl (fun b3 => ?_)
  refine lstw 2 rfl rfl rfl Try.sizeOf43 rfl rfl rfl ?_
  refine lnil ?_
  refine nthen ?_
  refine cseq ?_
  refine creg ?_
  refine l1 (fa fa43_5 rfl) ?_
  refine l1 (ldc 0 Try.isAgg3 rfl rfl rfl) ?_
  first | refine l1 (addn rfl rfl (ri (by omega) (by omega))) ?_ | refine l1 (add rfl rfl) ?_
  refine l1 (fa fa43_5 rfl) ?_
  refine lsti 2 rfl rfl rfl Try.sizeOf3 (lb rfl) (cs' := encG (bumpSeen g)) rfl ?_
  refine lnil ?_
  refine nthen ?_
  refine cseq ?_
  refine cseq ?_
  refine creg ?_
  refine l1 (mvi rfl) ?_
  refine l1 (neq rfl rfl) ?_
  refine lnil ?_
  refine nthen ?_
  refine cift rfl ?_
  refine creg ?_
  refine l1 (fa fa43_1 rfl) ?_
  refine l1 (ldc 0 Try.isAgg3 rfl rfl rfl) ?_
  first | refine l1 (addn rfl rfl (ri (by omega) (by omega))) ?_ | refine l1 (add rfl rfl) ?_
  refine l1 (fa fa43_1 rfl) ?_
  refine lsti 2 rfl rfl rfl Try.sizeOf3 (lb rfl) (cs' := encG (bumpEpoch (bumpSeen g))) rfl ?_
  refine lnil ?_
  refine nthen ?_
  refine cseq ?_
  refine cseq ?_
  refine creg ?_
  refine l1 (mvi rfl) ?_
  refine l1 (eql rfl rfl) ?_
  refine lnil ?_
  refine nthen ?_
  refine cift rfl ?_
  refine cseq ?_
  refine creg ?_
  refine l1 (mvi rfl) ?_
  refine l1 (fa fa43_0 rfl) ?_
  refine lsti 2 rfl rfl rfl Try.sizeOf3 (lb rfl) (cs' := encG ({ bumpEpoch (bumpSeen g) with owner := n })) rfl ?_
  refine lnil ?_
  refine nthen ?_
  refine creg ?_
  refine l1 (mvi rfl) ?_
  first | refine l1 (subn rfl rfl (ri (by omega) (by omega))) ?_ | refine l1 (sub rfl rfl) ?_
  refine l1 (fa fa43_2 rfl) ?_
  refine l1 (ia ar41 rfl rfl (by omega) (by omega)) ?_
  refine lstb 2 rfl rfl rfl Try.sizeOf4 (by rw [encG_len]; omega) (encG_setM _ _ _ (by omega)) ?_
  refine lnil ?_
  refine nthen ?_
  refine cseq ?_
  refine cseq ?_
  refine creg ?_
  refine l1 (mvi rfl) ?_
  refine l1 (eql rfl rfl) ?_
  refine lnil ?_
  refine nthen ?_
  refine ciff rfl ?_
  refine cskip ?_
  refine nthen ?_
  refine cseq ?_
  refine cseq ?_
  refine creg ?_
  refine l1 (mvi rfl) ?_
  refine l1 (eql rfl rfl) ?_
  refine lnil ?_
  refine nthen ?_
  refine ciff rfl ?_
  refine cskip ?_
  refine nthen ?_
  refine cseq ?_
  refine cseq ?_
  refine creg ?_
  refine l1 (mvi rfl) ?_
  refine l1 (eql rfl rfl) ?_
  refine lnil ?_
  refine nthen ?_
  refine ciff rfl ?_
  refine cskip ?_
  refine nthen ?_
  refine cseq ?_
  refine creg ?_
  refine l1 (ldw 2 Try.isAgg43 Try.sizeOf43 rfl rfl rfl) ?_
  refine lstw 1 rfl rfl rfl Try.sizeOf43 rfl rfl rfl ?_
  refine lnil ?_
  refine nthen ?_
  refine cret ?_
  exact finc 1 rfl Try.isAgg43 Try.sizeOf43 rfl rfl rfl (by rw [behind1 hw]; try rfl)

theorem rbehind2_calls (g : Grp) (n m cut : Int) (hw : wrongB n 2 m = false) (hb : 1 ≤ n ∧ n ≤ 6) (hm : 1 ≤ m ∧ m ≤ 6) (w : World) : Calls Try.prog 37 #[.agg (encG g).toArray, .int .i64 n, .int .i64 2, .int .i64 m, .int .u64 cut] w (Ret (.agg (encG (behindG g n 2 m cut)).toArray) w) := by
  refine fn_calls (n := 62) Try.func37 rfl rfl (lb rfl) ?_
  refine cseq ?_
  refine creg ?_
  refine lbxa rfl (fun b1 => ?_)
  refine lal Try.zeroValue43 rfl (fun b2 => ?_)
  refine lnil ?_
  refine nthen ?_
  refine cseq ?_
  refine cseq ?_
  refine creg ?_
  refine l1 (mvi rfl) ?_
  refine l1 (mvi rfl) ?_
  refine l1 (mvi rfl) ?_
  refine l1 (cl hb74 rfl (mc rfl (mc rfl (mc rfl mn))) (fun w hw => wrong_calls _ _ _ w)) ?_
  refine lnil ?_
  refine nthen ?_
  refine ciff (bf rfl hw) ?_
  refine cskip ?_
  refine nthen ?_
  refine cseq ?_
  refine creg ?_
  refine l1 (ldw 0 Try.isAgg43 Try.sizeOf43 rfl rfl rfl) ?_
  refine lal Try.zeroValue43 rfl (fun b3 => ?_)
  refine lstw 2 rfl rfl rfl Try.sizeOf43 rfl rfl rfl ?_
  refine lnil ?_
  refine nthen ?_
  refine cseq ?_
  refine creg ?_
  refine l1 (fa fa43_5 rfl) ?_
  refine l1 (ldc 0 Try.isAgg3 rfl rfl rfl) ?_
  first | refine l1 (addn rfl rfl (ri (by omega) (by omega))) ?_ | refine l1 (add rfl rfl) ?_
  refine l1 (fa fa43_5 rfl) ?_
  refine lsti 2 rfl rfl rfl Try.sizeOf3 (lb rfl) (cs' := encG (bumpSeen g)) rfl ?_
  refine lnil ?_
  refine nthen ?_
  refine cseq ?_
  refine cseq ?_
  refine creg ?_
  refine l1 (mvi rfl) ?_
  refine l1 (neq rfl rfl) ?_
  refine lnil ?_
  refine nthen ?_
  refine cift rfl ?_
  refine creg ?_
  refine l1 (fa fa43_1 rfl) ?_
  refine l1 (ldc 0 Try.isAgg3 rfl rfl rfl) ?_
  first | refine l1 (addn rfl rfl (ri (by omega) (by omega))) ?_ | refine l1 (add rfl rfl) ?_
  refine l1 (fa fa43_1 rfl) ?_
  refine lsti 2 rfl rfl rfl Try.sizeOf3 (lb rfl) (cs' := encG (bumpEpoch (bumpSeen g))) rfl ?_
  refine lnil ?_
  refine nthen ?_
  refine cseq ?_
  refine cseq ?_
  refine creg ?_
  refine l1 (mvi rfl) ?_
  refine l1 (eql rfl rfl) ?_
  refine lnil ?_
  refine nthen ?_
  refine ciff rfl ?_
  refine cskip ?_
  refine nthen ?_
  refine cseq ?_
  refine cseq ?_
  refine creg ?_
  refine l1 (mvi rfl) ?_
  refine l1 (eql rfl rfl) ?_
  refine lnil ?_
  refine nthen ?_
  refine cift rfl ?_
  refine creg ?_
  refine l1 (mvi rfl) ?_
  first | refine l1 (subn rfl rfl (ri (by omega) (by omega))) ?_ | refine l1 (sub rfl rfl) ?_
  refine l1 (fa fa43_2 rfl) ?_
  refine l1 (ia ar41 rfl rfl (by omega) (by omega)) ?_
  refine lstb 2 rfl rfl rfl Try.sizeOf4 (by rw [encG_len]; omega) (encG_setM _ _ _ (by omega)) ?_
  refine lnil ?_
  refine nthen ?_
  refine cseq ?_
  refine cseq ?_
  refine creg ?_
  refine l1 (mvi rfl) ?_
  refine l1 (eql rfl rfl) ?_
  refine lnil ?_
  refine nthen ?_
  refine ciff rfl ?_
  refine cskip ?_
  refine nthen ?_
  refine cseq ?_
  refine cseq ?_
  refine creg ?_
  refine l1 (mvi rfl) ?_
  refine l1 (eql rfl rfl) ?_
  refine lnil ?_
  refine nthen ?_
  refine ciff rfl ?_
  refine cskip ?_
  refine nthen ?_
  refine cseq ?_
  refine creg ?_
  refine l1 (ldw 2 Try.isAgg43 Try.sizeOf43 rfl rfl rfl) ?_
  refine lstw 1 rfl rfl rfl Try.sizeOf43 rfl rfl rfl ?_
  refine lnil ?_
  refine nthen ?_
  refine cret ?_
  exact finc 1 rfl Try.isAgg43 Try.sizeOf43 rfl rfl rfl (by rw [behind2 hw]; try rfl)

theorem rbehind3_calls (g : Grp) (n m cut : Int) (hw : wrongB n 3 m = false) (hb : 1 ≤ n ∧ n ≤ 6) (hm : 1 ≤ m ∧ m ≤ 6) (w : World) : Calls Try.prog 37 #[.agg (encG g).toArray, .int .i64 n, .int .i64 3, .int .i64 m, .int .u64 cut] w (Ret (.agg (encG (behindG g n 3 m cut)).toArray) w) := by
  refine fn_calls (n := 62) Try.func37 rfl rfl (lb rfl) ?_
  refine cseq ?_
  refine creg ?_
  refine lbxa rfl (fun b1 => ?_)
  refine lal Try.zeroValue43 rfl (fun b2 => ?_)
  refine lnil ?_
  refine nthen ?_
  refine cseq ?_
  refine cseq ?_
  refine creg ?_
  refine l1 (mvi rfl) ?_
  refine l1 (mvi rfl) ?_
  refine l1 (mvi rfl) ?_
  refine l1 (cl hb74 rfl (mc rfl (mc rfl (mc rfl mn))) (fun w hw => wrong_calls _ _ _ w)) ?_
  refine lnil ?_
  refine nthen ?_
  refine ciff (bf rfl hw) ?_
  refine cskip ?_
  refine nthen ?_
  refine cseq ?_
  refine creg ?_
  refine l1 (ldw 0 Try.isAgg43 Try.sizeOf43 rfl rfl rfl) ?_
  refine lal Try.zeroValue43 rfl (fun b3 => ?_)
  refine lstw 2 rfl rfl rfl Try.sizeOf43 rfl rfl rfl ?_
  refine lnil ?_
  refine nthen ?_
  refine cseq ?_
  refine creg ?_
  refine l1 (fa fa43_5 rfl) ?_
  refine l1 (ldc 0 Try.isAgg3 rfl rfl rfl) ?_
  first | refine l1 (addn rfl rfl (ri (by omega) (by omega))) ?_ | refine l1 (add rfl rfl) ?_
  refine l1 (fa fa43_5 rfl) ?_
  refine lsti 2 rfl rfl rfl Try.sizeOf3 (lb rfl) (cs' := encG (bumpSeen g)) rfl ?_
  refine lnil ?_
  refine nthen ?_
  refine cseq ?_
  refine cseq ?_
  refine creg ?_
  refine l1 (mvi rfl) ?_
  refine l1 (neq rfl rfl) ?_
  refine lnil ?_
  refine nthen ?_
  refine cift rfl ?_
  refine creg ?_
  refine l1 (fa fa43_1 rfl) ?_
  refine l1 (ldc 0 Try.isAgg3 rfl rfl rfl) ?_
  first | refine l1 (addn rfl rfl (ri (by omega) (by omega))) ?_ | refine l1 (add rfl rfl) ?_
  refine l1 (fa fa43_1 rfl) ?_
  refine lsti 2 rfl rfl rfl Try.sizeOf3 (lb rfl) (cs' := encG (bumpEpoch (bumpSeen g))) rfl ?_
  refine lnil ?_
  refine nthen ?_
  refine cseq ?_
  refine cseq ?_
  refine creg ?_
  refine l1 (mvi rfl) ?_
  refine l1 (eql rfl rfl) ?_
  refine lnil ?_
  refine nthen ?_
  refine ciff rfl ?_
  refine cskip ?_
  refine nthen ?_
  refine cseq ?_
  refine cseq ?_
  refine creg ?_
  refine l1 (mvi rfl) ?_
  refine l1 (eql rfl rfl) ?_
  refine lnil ?_
  refine nthen ?_
  refine ciff rfl ?_
  refine cskip ?_
  refine nthen ?_
  refine cseq ?_
  refine cseq ?_
  refine creg ?_
  refine l1 (mvi rfl) ?_
  refine l1 (eql rfl rfl) ?_
  refine lnil ?_
  refine nthen ?_
  refine cift rfl ?_
  refine cseq ?_
  refine creg ?_
  refine l1 (mvi rfl) ?_
  first | refine l1 (subn rfl rfl (ri (by omega) (by omega))) ?_ | refine l1 (sub rfl rfl) ?_
  refine l1 (fa fa43_2 rfl) ?_
  refine l1 (ia ar41 rfl rfl (by omega) (by omega)) ?_
  refine lstb 2 rfl rfl rfl Try.sizeOf4 (by rw [encG_len]; omega) (encG_setM _ _ _ (by omega)) ?_
  refine lnil ?_
  refine nthen ?_
  refine cseq ?_
  refine creg ?_
  refine l1 (mvi rfl) ?_
  first | refine l1 (subn rfl rfl (ri (by omega) (by omega))) ?_ | refine l1 (sub rfl rfl) ?_
  refine l1 (fa fa43_3 rfl) ?_
  refine l1 (ia ar41 rfl rfl (by omega) (by omega)) ?_
  refine lstb 2 rfl rfl rfl Try.sizeOf4 (by rw [encG_len]; omega) (encG_setG _ _ _ (by omega)) ?_
  refine lnil ?_
  refine nthen ?_
  refine creg ?_
  refine l1 (mvi rfl) ?_
  first | refine l1 (subn rfl rfl (ri (by omega) (by omega))) ?_ | refine l1 (sub rfl rfl) ?_
  refine l1 (mvi rfl) ?_
  refine l1 (fa fa43_4 rfl) ?_
  refine l1 (ia ar23 rfl rfl (by omega) (by omega)) ?_
  refine lsti 2 rfl rfl rfl Try.sizeOf22 (by rw [encG_len]; omega) (encG_setC _ _ _ (by omega)) ?_
  refine lnil ?_
  refine nthen ?_
  refine cseq ?_
  refine cseq ?_
  refine creg ?_
  refine l1 (mvi rfl) ?_
  refine l1 (eql rfl rfl) ?_
  refine lnil ?_
  refine nthen ?_
  refine ciff rfl ?_
  refine cskip ?_
  refine nthen ?_
  refine cseq ?_
  refine creg ?_
  refine l1 (ldw 2 Try.isAgg43 Try.sizeOf43 rfl rfl rfl) ?_
  refine lstw 1 rfl rfl rfl Try.sizeOf43 rfl rfl rfl ?_
  refine lnil ?_
  refine nthen ?_
  refine cret ?_
  exact finc 1 rfl Try.isAgg43 Try.sizeOf43 rfl rfl rfl (by rw [behind3 hw]; try rfl)

theorem rbehind4_calls (g : Grp) (n m cut : Int) (hw : wrongB n 4 m = false) (hb : 1 ≤ n ∧ n ≤ 6) (w : World) : Calls Try.prog 37 #[.agg (encG g).toArray, .int .i64 n, .int .i64 4, .int .i64 m, .int .u64 cut] w (Ret (.agg (encG (behindG g n 4 m cut)).toArray) w) := by
  refine fn_calls (n := 62) Try.func37 rfl rfl (lb rfl) ?_
  refine cseq ?_
  refine creg ?_
  refine lbxa rfl (fun b1 => ?_)
  refine lal Try.zeroValue43 rfl (fun b2 => ?_)
  refine lnil ?_
  refine nthen ?_
  refine cseq ?_
  refine cseq ?_
  refine creg ?_
  refine l1 (mvi rfl) ?_
  refine l1 (mvi rfl) ?_
  refine l1 (mvi rfl) ?_
  refine l1 (cl hb74 rfl (mc rfl (mc rfl (mc rfl mn))) (fun w hw => wrong_calls _ _ _ w)) ?_
  refine lnil ?_
  refine nthen ?_
  refine ciff (bf rfl hw) ?_
  refine cskip ?_
  refine nthen ?_
  refine cseq ?_
  refine creg ?_
  refine l1 (ldw 0 Try.isAgg43 Try.sizeOf43 rfl rfl rfl) ?_
  refine lal Try.zeroValue43 rfl (fun b3 => ?_)
  refine lstw 2 rfl rfl rfl Try.sizeOf43 rfl rfl rfl ?_
  refine lnil ?_
  refine nthen ?_
  refine cseq ?_
  refine creg ?_
  refine l1 (fa fa43_5 rfl) ?_
  refine l1 (ldc 0 Try.isAgg3 rfl rfl rfl) ?_
  first | refine l1 (addn rfl rfl (ri (by omega) (by omega))) ?_ | refine l1 (add rfl rfl) ?_
  refine l1 (fa fa43_5 rfl) ?_
  refine lsti 2 rfl rfl rfl Try.sizeOf3 (lb rfl) (cs' := encG (bumpSeen g)) rfl ?_
  refine lnil ?_
  refine nthen ?_
  refine cseq ?_
  refine cseq ?_
  refine creg ?_
  refine l1 (mvi rfl) ?_
  refine l1 (neq rfl rfl) ?_
  refine lnil ?_
  refine nthen ?_
  refine cift rfl ?_
  refine creg ?_
  refine l1 (fa fa43_1 rfl) ?_
  refine l1 (ldc 0 Try.isAgg3 rfl rfl rfl) ?_
  first | refine l1 (addn rfl rfl (ri (by omega) (by omega))) ?_ | refine l1 (add rfl rfl) ?_
  refine l1 (fa fa43_1 rfl) ?_
  refine lsti 2 rfl rfl rfl Try.sizeOf3 (lb rfl) (cs' := encG (bumpEpoch (bumpSeen g))) rfl ?_
  refine lnil ?_
  refine nthen ?_
  refine cseq ?_
  refine cseq ?_
  refine creg ?_
  refine l1 (mvi rfl) ?_
  refine l1 (eql rfl rfl) ?_
  refine lnil ?_
  refine nthen ?_
  refine ciff rfl ?_
  refine cskip ?_
  refine nthen ?_
  refine cseq ?_
  refine cseq ?_
  refine creg ?_
  refine l1 (mvi rfl) ?_
  refine l1 (eql rfl rfl) ?_
  refine lnil ?_
  refine nthen ?_
  refine ciff rfl ?_
  refine cskip ?_
  refine nthen ?_
  refine cseq ?_
  refine cseq ?_
  refine creg ?_
  refine l1 (mvi rfl) ?_
  refine l1 (eql rfl rfl) ?_
  refine lnil ?_
  refine nthen ?_
  refine ciff rfl ?_
  refine cskip ?_
  refine nthen ?_
  refine cseq ?_
  refine cseq ?_
  refine creg ?_
  refine l1 (mvi rfl) ?_
  refine l1 (eql rfl rfl) ?_
  refine lnil ?_
  refine nthen ?_
  refine ciff rfl ?_
  refine cskip ?_
  refine nthen ?_
  refine cseq ?_
  refine creg ?_
  refine l1 (ldw 2 Try.isAgg43 Try.sizeOf43 rfl rfl rfl) ?_
  refine lstw 1 rfl rfl rfl Try.sizeOf43 rfl rfl rfl ?_
  refine lnil ?_
  refine nthen ?_
  refine cret ?_
  exact finc 1 rfl Try.isAgg43 Try.sizeOf43 rfl rfl rfl (by rw [behind4 hw]; try rfl)

theorem rbehind5_calls (g : Grp) (n m cut : Int) (hw : wrongB n 5 m = false) (hb : 1 ≤ n ∧ n ≤ 6) (w : World) : Calls Try.prog 37 #[.agg (encG g).toArray, .int .i64 n, .int .i64 5, .int .i64 m, .int .u64 cut] w (Ret (.agg (encG (behindG g n 5 m cut)).toArray) w) := by
  refine fn_calls (n := 62) Try.func37 rfl rfl (lb rfl) ?_
  refine cseq ?_
  refine creg ?_
  refine lbxa rfl (fun b1 => ?_)
  refine lal Try.zeroValue43 rfl (fun b2 => ?_)
  refine lnil ?_
  refine nthen ?_
  refine cseq ?_
  refine cseq ?_
  refine creg ?_
  refine l1 (mvi rfl) ?_
  refine l1 (mvi rfl) ?_
  refine l1 (mvi rfl) ?_
  refine l1 (cl hb74 rfl (mc rfl (mc rfl (mc rfl mn))) (fun w hw => wrong_calls _ _ _ w)) ?_
  refine lnil ?_
  refine nthen ?_
  refine ciff (bf rfl hw) ?_
  refine cskip ?_
  refine nthen ?_
  refine cseq ?_
  refine creg ?_
  refine l1 (ldw 0 Try.isAgg43 Try.sizeOf43 rfl rfl rfl) ?_
  refine lal Try.zeroValue43 rfl (fun b3 => ?_)
  refine lstw 2 rfl rfl rfl Try.sizeOf43 rfl rfl rfl ?_
  refine lnil ?_
  refine nthen ?_
  refine cseq ?_
  refine creg ?_
  refine l1 (fa fa43_5 rfl) ?_
  refine l1 (ldc 0 Try.isAgg3 rfl rfl rfl) ?_
  first | refine l1 (addn rfl rfl (ri (by omega) (by omega))) ?_ | refine l1 (add rfl rfl) ?_
  refine l1 (fa fa43_5 rfl) ?_
  refine lsti 2 rfl rfl rfl Try.sizeOf3 (lb rfl) (cs' := encG (bumpSeen g)) rfl ?_
  refine lnil ?_
  refine nthen ?_
  refine cseq ?_
  refine cseq ?_
  refine creg ?_
  refine l1 (mvi rfl) ?_
  refine l1 (neq rfl rfl) ?_
  refine lnil ?_
  refine nthen ?_
  refine ciff rfl ?_
  refine cskip ?_
  refine nthen ?_
  refine cseq ?_
  refine cseq ?_
  refine creg ?_
  refine l1 (mvi rfl) ?_
  refine l1 (eql rfl rfl) ?_
  refine lnil ?_
  refine nthen ?_
  refine ciff rfl ?_
  refine cskip ?_
  refine nthen ?_
  refine cseq ?_
  refine cseq ?_
  refine creg ?_
  refine l1 (mvi rfl) ?_
  refine l1 (eql rfl rfl) ?_
  refine lnil ?_
  refine nthen ?_
  refine ciff rfl ?_
  refine cskip ?_
  refine nthen ?_
  refine cseq ?_
  refine cseq ?_
  refine creg ?_
  refine l1 (mvi rfl) ?_
  refine l1 (eql rfl rfl) ?_
  refine lnil ?_
  refine nthen ?_
  refine ciff rfl ?_
  refine cskip ?_
  refine nthen ?_
  refine cseq ?_
  refine cseq ?_
  refine creg ?_
  refine l1 (mvi rfl) ?_
  refine l1 (eql rfl rfl) ?_
  refine lnil ?_
  refine nthen ?_
  refine cift rfl ?_
  refine creg ?_
  refine l1 (mvi rfl) ?_
  refine l1 (fa fa43_0 rfl) ?_
  refine lsti 2 rfl rfl rfl Try.sizeOf3 (lb rfl) (cs' := encG ({ bumpSeen g with owner := m })) rfl ?_
  refine lnil ?_
  refine nthen ?_
  refine cseq ?_
  refine creg ?_
  refine l1 (ldw 2 Try.isAgg43 Try.sizeOf43 rfl rfl rfl) ?_
  refine lstw 1 rfl rfl rfl Try.sizeOf43 rfl rfl rfl ?_
  refine lnil ?_
  refine nthen ?_
  refine cret ?_
  exact finc 1 rfl Try.isAgg43 Try.sizeOf43 rfl rfl rfl (by rw [behind5 hw]; try rfl)

theorem rbehind0_calls (g : Grp) (n op m cut : Int) (hw : wrongB n op m = true) (w : World) : Calls Try.prog 37 #[.agg (encG g).toArray, .int .i64 n, .int .i64 op, .int .i64 m, .int .u64 cut] w (Ret (.agg (encG (behindG g n op m cut)).toArray) w) := by
  refine fn_calls (n := 62) Try.func37 rfl rfl (lb rfl) ?_
  refine cseq ?_
  refine creg ?_
  refine lbxa rfl (fun b1 => ?_)
  refine lal Try.zeroValue43 rfl (fun b2 => ?_)
  refine lnil ?_
  refine nthen ?_
  refine cseq ?_
  refine cseq ?_
  refine creg ?_
  refine l1 (mvi rfl) ?_
  refine l1 (mvi rfl) ?_
  refine l1 (mvi rfl) ?_
  refine l1 (cl hb74 rfl (mc rfl (mc rfl (mc rfl mn))) (fun w hw => wrong_calls _ _ _ w)) ?_
  refine lnil ?_
  refine nthen ?_
  refine cift (bt rfl hw) ?_
  refine cseq ?_
  refine creg ?_
  refine l1 (ldw 0 Try.isAgg43 Try.sizeOf43 rfl rfl rfl) ?_
  refine lstw 1 rfl rfl rfl Try.sizeOf43 rfl rfl rfl ?_
  refine lnil ?_
  refine nthen ?_
  refine cret ?_
  refine nthenR ?_
  exact finc 1 rfl Try.isAgg43 Try.sizeOf43 rfl rfl rfl (by rw [behind0 hw])

theorem rbehind_calls (g : Grp) (n op m cut : Int) (w : World) : Calls Try.prog 37 #[.agg (encG g).toArray, .int .i64 n, .int .i64 op, .int .i64 m, .int .u64 cut] w (Ret (.agg (encG (behindG g n op m cut)).toArray) w) := by
  cases hw : wrongB n op m with
  | true => exact rbehind0_calls g n op m cut hw w
  | false =>
    obtain ⟨h1, h2, h3⟩ := wrong_ops hw
    rcases h3 with rfl | ⟨rfl, h3⟩ | ⟨rfl, h3⟩ | rfl | rfl
    · exact rbehind1_calls g n m cut hw ⟨h1, h2⟩ w
    · exact rbehind2_calls g n m cut hw ⟨h1, h2⟩ h3 w
    · exact rbehind3_calls g n m cut hw ⟨h1, h2⟩ h3 w
    · exact rbehind4_calls g n m cut hw ⟨h1, h2⟩ w
    · exact rbehind5_calls g n m cut hw ⟨h1, h2⟩ w

theorem awake17_calls  (w : World) : Calls Try.prog 31 #[] w (Ret (.bool true) w) := by
  refine fn_calls (n := 16) Try.func31 rfl rfl (lb rfl) ?_
  refine cseq ?_
  refine creg ?_
  refine l1 (asgb rfl) ?_
  refine lnil ?_
  refine nthen ?_
  refine cseq ?_
  refine creg ?_
  refine l1 (bld0 bz43) ?_
  refine l1 (cl hb33 rfl (mc rfl (mc rfl (mc rfl (mc rfl (mc rfl mn))))) (fun w hw => behind_calls zeroG _ _ _ _ w)) ?_
  refine lal Try.zeroValue43 rfl (fun b1 => ?_)
  refine lstw 0 rfl rfl rfl Try.sizeOf43 rfl rfl rfl ?_
  refine lnil ?_
  refine nthen ?_
  refine cseq ?_
  refine creg ?_
  refine l1 (fa fa43_0 rfl) ?_
  refine l1 (ldc 0 Try.isAgg3 rfl rfl rfl) ?_
  refine l1 (eql rfl rfl) ?_
  refine l1 (mvb rfl) ?_
  refine l1g rfl (gwt rfl) (fun h => fa fa43_1 rfl) ?_
  refine l1g rfl (gwt rfl) (fun h => ldc 0 Try.isAgg3 rfl (gvt h) rfl) ?_
  refine l1g rfl (gwt rfl) (fun h => eql (gvt h) rfl) ?_
  refine l1 (pk_and rfl rfl rfl) ?_
  refine l1 (mvb rfl) ?_
  refine l1g rfl (gwt rfl) (fun h => ldw 0 Try.isAgg43 Try.sizeOf43 rfl rfl rfl) ?_
  refine l1g rfl (gwt rfl) (fun h => cl hb34 rfl (mc (gvt h) (mc rfl mn)) (fun w hw => is_calls _ _ (by omega) w)) ?_
  refine l1 (pk_and rfl rfl rfl) ?_
  refine l1 (asgb rfl) ?_
  refine lnil ?_
  refine nthen ?_
  refine cret ?_
  exact fin1 rfl rfl
end Go.Proofs.Ytkdbjhlkahkobaa
