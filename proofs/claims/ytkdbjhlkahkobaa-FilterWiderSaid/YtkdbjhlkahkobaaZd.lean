/- several texts of ours, joined: Wg, Wr, Ord, Ord2, Wq, Wt, Mem3, Rws -/
import Derived.Test.YtkdbjhlkahkobaaZa
import Derived.Test.YtkdbjhlkahkobaaZc
/- walks, printed by a program of ours -/
namespace Go.Proofs.Ytkdbjhlkahkobaa
open Jal Go.RowKit
set_option maxRecDepth 100000
def plcB (x : Hd) : Bool := ((((((decide (x.writer < 1) || decide (x.writer > 6)) || decide (x.seq < 1)) || decide (x.seq > 1048576)) || decide (x.epoch < 0)) || decide (x.epoch > 255)) || decide (x.time > 1099511627776)) || decide (x.knows (x.writer - 1).toNat ≠ x.seq - 1)
def knowB (k : Nat → Int) (r : Bool) : Bool := bif decide (k 0 > 1048576) then false else bif decide (k 1 > 1048576) then false else bif decide (k 2 > 1048576) then false else bif decide (k 3 > 1048576) then false else bif decide (k 4 > 1048576) then false else bif decide (k 5 > 1048576) then false else r
def firstB (x : Hd) : Bool := decide (x.seq > 1) || eqA 32 x.prev (fun _ => 0)
def plainB (x : Hd) : Bool := !x.control || (decide ((x.tn : Int) = 0) && eqA 16 x.item (fun _ => 0))
def placedB (x : Hd) : Bool := bif plcB x then false else knowB x.knows (firstB x)
def formedH (x : Hd) : Bool := bif ((!placedB x || decide ((x.tn : Int) > 8)) || !sortedT x.tn x.tok) || !isB (IntKind.i64.wrap (x.size - 16)) then false else plainB x
theorem plc_no {x : Hd} (h : plcB x = false) : 1 ≤ x.writer ∧ x.writer ≤ 6 ∧ 1 ≤ x.seq ∧ x.seq ≤ 1048576 ∧ 0 ≤ x.epoch ∧ x.epoch ≤ 255 ∧ x.time ≤ 1099511627776 ∧ x.knows (x.writer - 1).toNat = x.seq - 1 := by
  simp only [plcB, Bool.or_eq_false_iff, decide_eq_false_iff_not, Decidable.not_not, ne_eq] at h; omega
theorem placed_no {x : Hd} (h : placedB x = true) : plcB x = false := by
  cases hp : plcB x with
  | false => rfl
  | true => simp [placedB, hp] at h
theorem formed_placed {x : Hd} (h : formedH x = true) : placedB x = true := by
  cases hp : placedB x with
  | true => rfl
  | false => simp [formedH, hp] at h
theorem formed_w {x : Hd} (h : formedH x = true) : 1 ≤ x.writer ∧ x.writer ≤ 6 ∧ 1 ≤ x.seq ∧ x.seq ≤ 1048576 ∧ 0 ≤ x.epoch ∧ x.epoch ≤ 255 ∧ x.time ≤ 1099511627776 ∧ x.knows (x.writer - 1).toNat = x.seq - 1 := plc_no (placed_no (formed_placed h))

theorem placed_calls (x : Hd) (w : World) : Calls Try.prog 107 #[.agg (encH x).toArray] w (Ret (.bool (placedB x)) w) := by
  refine fn_calls (n := 67) Try.func107 rfl rfl (lb rfl) ?_
  refine cseq ?_
  refine creg ?_
  refine lbxa rfl (fun b1 => ?_)
  refine l1 (asgb rfl) ?_
  refine lnil ?_
  refine nthen ?_
  refine cseq ?_
  refine cseq ?_
  refine cregq mo (by kernel_rfl) ?_
  refine q1 (fa fa37_0 rfl) ?_
  refine q1 (ldc 0 Try.isAgg3 rfl rfl rfl) ?_
  refine q1 (lss rfl rfl) ?_
  refine q1 (mvb rfl) ?_
  refine q1g rfl (gwf rfl) (fun h => fa fa37_0 rfl) ?_
  refine q1g rfl (gwf rfl) (fun h => ldc 0 Try.isAgg3 rfl (gvt h) rfl) ?_
  refine q1g rfl (gwf rfl) (fun h => gtr (gvt h) rfl) ?_
  refine q1 (pk_or rfl rfl rfl) ?_
  refine q1 (mvb rfl) ?_
  refine q1g rfl (gwf rfl) (fun h => fa fa37_1 rfl) ?_
  refine q1g rfl (gwf rfl) (fun h => ldc 0 Try.isAgg22 rfl (gvt h) rfl) ?_
  refine q1g rfl (gwf rfl) (fun h => lss (gvt h) rfl) ?_
  refine q1 (pk_or rfl rfl rfl) ?_
  refine q1 (mvb rfl) ?_
  refine q1g rfl (gwf rfl) (fun h => fa fa37_1 rfl) ?_
  refine q1g rfl (gwf rfl) (fun h => ldc 0 Try.isAgg22 rfl (gvt h) rfl) ?_
  refine q1g rfl (gwf rfl) (fun h => gtr (gvt h) rfl) ?_
  refine q1 (pk_or rfl rfl rfl) ?_
  refine q1 (mvb rfl) ?_
  refine q1g rfl (gwf rfl) (fun h => fa fa37_3 rfl) ?_
  refine q1g rfl (gwf rfl) (fun h => ldc 0 Try.isAgg3 rfl (gvt h) rfl) ?_
  refine q1g rfl (gwf rfl) (fun h => lss (gvt h) rfl) ?_
  refine q1 (pk_or rfl rfl rfl) ?_
  refine q1 (mvb rfl) ?_
  refine q1g rfl (gwf rfl) (fun h => fa fa37_3 rfl) ?_
  refine q1g rfl (gwf rfl) (fun h => ldc 0 Try.isAgg3 rfl (gvt h) rfl) ?_
  refine q1g rfl (gwf rfl) (fun h => gtr (gvt h) rfl) ?_
  refine q1 (pk_or rfl rfl rfl) ?_
  refine q1 (mvb rfl) ?_
  refine q1g rfl (gwf rfl) (fun h => fa fa37_5 rfl) ?_
  refine q1g rfl (gwf rfl) (fun h => ldc 0 Try.isAgg22 rfl (gvt h) rfl) ?_
  refine q1g rfl (gwf rfl) (fun h => gtr (gvt h) rfl) ?_
  refine q1 (pk_or rfl rfl rfl) ?_
  refine q1 (mvb rfl) ?_
  refine q1g rfl (gwf rfl) (fun h => fa fa37_0 rfl) ?_
  refine q1g rfl (gwf rfl) (fun h => ldc 0 Try.isAgg3 rfl (gvt h) rfl) ?_
  first | refine q1g rfl (gwf rfl) (fun h => subn (gvt h) rfl (ri (by first | omega | (simp at h; omega)) (by first | omega | (simp at h; omega))) ) ?_ | refine q1g rfl (gwf rfl) (fun h => sub (gvt h) rfl ) ?_
  refine q1g rfl (gwf rfl) (fun h => fa fa37_8 rfl) ?_
  refine q1g rfl (gwf rfl) (fun h => ia ar23 (gvt h) (gvt h) (by first | omega | (simp at h; omega)) (by first | omega | (simp at h; omega))) ?_
  refine q1g rfl (gwf rfl) (fun h => ldc 0 Try.isAgg22 rfl (gvt h) (encH_know _ _ (by first | omega | (simp at h; omega)))) ?_
  refine q1g rfl (gwf rfl) (fun h => fa fa37_1 rfl) ?_
  refine q1g rfl (gwf rfl) (fun h => ldc 0 Try.isAgg22 rfl (gvt h) rfl) ?_
  first | refine q1g rfl (gwf rfl) (fun h => subn (gvt h) rfl (ru (by first | omega | (simp at h; omega)) (by first | omega | (simp at h; omega))) ) ?_ | refine q1g rfl (gwf rfl) (fun h => sub (gvt h) rfl ) ?_
  refine q1g rfl (gwf rfl) (fun h => neq (gvt h) (gvt h)) ?_
  refine q1 (pk_or rfl rfl rfl) ?_
  refine qnil ?_
  refine nthen ?_
  refine cif rfl (fun h1 => ?_) (fun h1 => ?_)
  · change plcB x = _ at h1
    refine cseq ?_
    refine creg ?_
    refine l1 (asgb rfl) ?_
    refine lnil ?_
    refine nthen ?_
    refine cret ?_
    refine nthenR ?_
    exact fin1b rfl rfl (by first | rfl | (simp only [placedB, knowB, firstB, h1, cond_true, cond_false]; done))
  · change plcB x = _ at h1
    refine cskip ?_
    refine nthen ?_
    refine cseq ?_
    refine cseq ?_
    refine creg ?_
    refine l1 (fa fa37_8 rfl) ?_
    refine l1 (lda 0 Try.isAgg23 Try.sizeOf23 rfl rfl (encH_knows _) rfl) ?_
    refine l1 (mvi rfl) ?_
    refine lnil ?_
    refine nthen ?_
    refine cblock ?_
    refine cloopN 7 ?_
    refine rsucc ?_
    refine cseq ?_
    refine creg ?_
    refine l1 (lss rfl rfl) ?_
    refine lnil ?_
    refine nthen ?_
    refine cseq ?_
    refine cift rfl ?_
    refine cskip ?_
    refine nthen ?_
    refine cseq ?_
    refine cblock ?_
    refine cseq ?_
    refine creg ?_
    refine l1 (ixv Try.underlying23 Try.sizeOf22 Try.isAgg22 rfl rfl (by decide) (by decide) rfl) ?_
    refine l1 (asgi rfl) ?_
    refine lnil ?_
    refine nthen ?_
    refine cseq ?_
    refine creg ?_
    refine l1 (mvi rfl) ?_
    refine l1 (gtr rfl rfl) ?_
    refine lnil ?_
    refine nthen ?_
    refine cif rfl (fun h2 => ?_) (fun h2 => ?_)
    · skip
      refine cseq ?_
      refine creg ?_
      refine l1 (asgb rfl) ?_
      refine lnil ?_
      refine nthen ?_
      refine cret ?_
      refine nblkR ?_
      refine nthenR ?_
      refine nroundR ?_
      refine nblkR ?_
      refine nthenR ?_
      exact fin1b rfl rfl (by first | rfl | (simp only [placedB, knowB, firstB, h1, h2, cond_true, cond_false]; done))
    · skip
      refine cskip ?_
      refine nblkN ?_
      refine nthen ?_
      refine creg ?_
      first | refine l1 (addn rfl rfl (ri (by omega) (by omega))) ?_ | refine l1 (add rfl rfl) ?_
      refine l1 (mvi rfl) ?_
      refine lnil ?_
      refine nround (rsucc ?_)
      refine cseq ?_
      refine creg ?_
      refine l1 (lss rfl rfl) ?_
      refine lnil ?_
      refine nthen ?_
      refine cseq ?_
      refine cift rfl ?_
      refine cskip ?_
      refine nthen ?_
      refine cseq ?_
      refine cblock ?_
      refine cseq ?_
      refine creg ?_
      refine l1 (ixv Try.underlying23 Try.sizeOf22 Try.isAgg22 rfl rfl (by decide) (by decide) rfl) ?_
      refine l1 (asgi rfl) ?_
      refine lnil ?_
      refine nthen ?_
      refine cseq ?_
      refine creg ?_
      refine l1 (mvi rfl) ?_
      refine l1 (gtr rfl rfl) ?_
      refine lnil ?_
      refine nthen ?_
      refine cif rfl (fun h3 => ?_) (fun h3 => ?_)
      · skip
        refine cseq ?_
        refine creg ?_
        refine l1 (asgb rfl) ?_
        refine lnil ?_
        refine nthen ?_
        refine cret ?_
        refine nblkR ?_
        refine nthenR ?_
        refine nroundR ?_
        refine nblkR ?_
        refine nthenR ?_
        exact fin1b rfl rfl (by first | rfl | (simp only [placedB, knowB, firstB, h1, h2, h3, cond_true, cond_false]; done))
      · skip
        refine cskip ?_
        refine nblkN ?_
        refine nthen ?_
        refine creg ?_
        first | refine l1 (addn rfl rfl (ri (by omega) (by omega))) ?_ | refine l1 (add rfl rfl) ?_
        refine l1 (mvi rfl) ?_
        refine lnil ?_
        refine nround (rsucc ?_)
        refine cseq ?_
        refine creg ?_
        refine l1 (lss rfl rfl) ?_
        refine lnil ?_
        refine nthen ?_
        refine cseq ?_
        refine cift rfl ?_
        refine cskip ?_
        refine nthen ?_
        refine cseq ?_
        refine cblock ?_
        refine cseq ?_
        refine creg ?_
        refine l1 (ixv Try.underlying23 Try.sizeOf22 Try.isAgg22 rfl rfl (by decide) (by decide) rfl) ?_
        refine l1 (asgi rfl) ?_
        refine lnil ?_
        refine nthen ?_
        refine cseq ?_
        refine creg ?_
        refine l1 (mvi rfl) ?_
        refine l1 (gtr rfl rfl) ?_
        refine lnil ?_
        refine nthen ?_
        refine cif rfl (fun h4 => ?_) (fun h4 => ?_)
        · skip
          refine cseq ?_
          refine creg ?_
          refine l1 (asgb rfl) ?_
          refine lnil ?_
          refine nthen ?_
          refine cret ?_
          refine nblkR ?_
          refine nthenR ?_
          refine nroundR ?_
          refine nblkR ?_
          refine nthenR ?_
          exact fin1b rfl rfl (by first | rfl | (simp only [placedB, knowB, firstB, h1, h2, h3, h4, cond_true, cond_false]; done))
        · skip
          refine cskip ?_
          refine nblkN ?_
          refine nthen ?_
          refine creg ?_
          first | refine l1 (addn rfl rfl (ri (by omega) (by omega))) ?_ | refine l1 (add rfl rfl) ?_
          refine l1 (mvi rfl) ?_
          refine lnil ?_
          refine nround (rsucc ?_)
          refine cseq ?_
          refine creg ?_
          refine l1 (lss rfl rfl) ?_
          refine lnil ?_
          refine nthen ?_
          refine cseq ?_
          refine cift rfl ?_
          refine cskip ?_
          refine nthen ?_
          refine cseq ?_
          refine cblock ?_
          refine cseq ?_
          refine creg ?_
          refine l1 (ixv Try.underlying23 Try.sizeOf22 Try.isAgg22 rfl rfl (by decide) (by decide) rfl) ?_
          refine l1 (asgi rfl) ?_
          refine lnil ?_
          refine nthen ?_
          refine cseq ?_
          refine creg ?_
          refine l1 (mvi rfl) ?_
          refine l1 (gtr rfl rfl) ?_
          refine lnil ?_
          refine nthen ?_
          refine cif rfl (fun h5 => ?_) (fun h5 => ?_)
          · skip
            refine cseq ?_
            refine creg ?_
            refine l1 (asgb rfl) ?_
            refine lnil ?_
            refine nthen ?_
            refine cret ?_
            refine nblkR ?_
            refine nthenR ?_
            refine nroundR ?_
            refine nblkR ?_
            refine nthenR ?_
            exact fin1b rfl rfl (by first | rfl | (simp only [placedB, knowB, firstB, h1, h2, h3, h4, h5, cond_true, cond_false]; done))
          · skip
            refine cskip ?_
            refine nblkN ?_
            refine nthen ?_
            refine creg ?_
            first | refine l1 (addn rfl rfl (ri (by omega) (by omega))) ?_ | refine l1 (add rfl rfl) ?_
            refine l1 (mvi rfl) ?_
            refine lnil ?_
            refine nround (rsucc ?_)
            refine cseq ?_
            refine creg ?_
            refine l1 (lss rfl rfl) ?_
            refine lnil ?_
            refine nthen ?_
            refine cseq ?_
            refine cift rfl ?_
            refine cskip ?_
            refine nthen ?_
            refine cseq ?_
            refine cblock ?_
            refine cseq ?_
            refine creg ?_
            refine l1 (ixv Try.underlying23 Try.sizeOf22 Try.isAgg22 rfl rfl (by decide) (by decide) rfl) ?_
            refine l1 (asgi rfl) ?_
            refine lnil ?_
            refine nthen ?_
            refine cseq ?_
            refine creg ?_
            refine l1 (mvi rfl) ?_
            refine l1 (gtr rfl rfl) ?_
            refine lnil ?_
            refine nthen ?_
            refine cif rfl (fun h6 => ?_) (fun h6 => ?_)
            · skip
              refine cseq ?_
              refine creg ?_
              refine l1 (asgb rfl) ?_
              refine lnil ?_
              refine nthen ?_
              refine cret ?_
              refine nblkR ?_
              refine nthenR ?_
              refine nroundR ?_
              refine nblkR ?_
              refine nthenR ?_
              exact fin1b rfl rfl (by first | rfl | (simp only [placedB, knowB, firstB, h1, h2, h3, h4, h5, h6, cond_true, cond_false]; done))
            · skip
              refine cskip ?_
              refine nblkN ?_
              refine nthen ?_
              refine creg ?_
              first | refine l1 (addn rfl rfl (ri (by omega) (by omega))) ?_ | refine l1 (add rfl rfl) ?_
              refine l1 (mvi rfl) ?_
              refine lnil ?_
              refine nround (rsucc ?_)
              refine cseq ?_
              refine creg ?_
              refine l1 (lss rfl rfl) ?_
              refine lnil ?_
              refine nthen ?_
              refine cseq ?_
              refine cift rfl ?_
              refine cskip ?_
              refine nthen ?_
              refine cseq ?_
              refine cblock ?_
              refine cseq ?_
              refine creg ?_
              refine l1 (ixv Try.underlying23 Try.sizeOf22 Try.isAgg22 rfl rfl (by decide) (by decide) rfl) ?_
              refine l1 (asgi rfl) ?_
              refine lnil ?_
              refine nthen ?_
              refine cseq ?_
              refine creg ?_
              refine l1 (mvi rfl) ?_
              refine l1 (gtr rfl rfl) ?_
              refine lnil ?_
              refine nthen ?_
              refine cif rfl (fun h7 => ?_) (fun h7 => ?_)
              · skip
                refine cseq ?_
                refine creg ?_
                refine l1 (asgb rfl) ?_
                refine lnil ?_
                refine nthen ?_
                refine cret ?_
                refine nblkR ?_
                refine nthenR ?_
                refine nroundR ?_
                refine nblkR ?_
                refine nthenR ?_
                exact fin1b rfl rfl (by first | rfl | (simp only [placedB, knowB, firstB, h1, h2, h3, h4, h5, h6, h7, cond_true, cond_false]; done))
              · skip
                refine cskip ?_
                refine nblkN ?_
                refine nthen ?_
                refine creg ?_
                first | refine l1 (addn rfl rfl (ri (by omega) (by omega))) ?_ | refine l1 (add rfl rfl) ?_
                refine l1 (mvi rfl) ?_
                refine lnil ?_
                refine nround (rsucc ?_)
                refine cseq ?_
                refine creg ?_
                refine l1 (lss rfl rfl) ?_
                refine lnil ?_
                refine nthen ?_
                refine cseq ?_
                refine ciff rfl ?_
                refine cexit ?_
                refine nthenE ?_
                refine nroundE ?_
                refine nblkE ?_
                refine nthen ?_
                refine cseq ?_
                refine creg ?_
                refine l1 (fa fa37_1 rfl) ?_
                refine l1 (ldc 0 Try.isAgg22 rfl rfl rfl) ?_
                refine l1 (gtr rfl rfl) ?_
                refine l1 (mvb rfl) ?_
                refine l1g rfl (gwf rfl) (fun h => fa fa37_2 rfl) ?_
                refine l1g rfl (gwf rfl) (fun h => lda 0 Try.isAgg32 Try.sizeOf32 rfl (gvt h) (encH_prev _) rfl) ?_
                refine l1g rfl (gwf rfl) (fun h => bld0 bk32z) ?_
                refine l1g rfl (gwf rfl) (fun h => eqla (gvt h) (gvt h) (fun w => eql32 _ _ w)) ?_
                refine l1 (pk_or rfl rfl rfl) ?_
                refine l1 (asgb rfl) ?_
                refine lnil ?_
                refine nthen ?_
                refine cret ?_
                exact fin1b rfl rfl (by first | rfl | (simp only [placedB, knowB, firstB, h1, h2, h3, h4, h5, h6, h7, cond_true, cond_false]; done))

theorem hformed_calls (x : Hd) (w : World) (hx : HdIn w x) (kx : HdOk x) : Calls Try.prog 76 #[.agg (encH x).toArray] w (Ret (.bool (formedH x)) w) := by
  refine fn_calls (n := 40) Try.func76 rfl rfl (lb rfl) ?_
  refine cseq ?_
  refine creg ?_
  refine lbxa rfl (fun b1 => ?_)
  refine l1 (asgb rfl) ?_
  refine lnil ?_
  refine nthen ?_
  refine cseq ?_
  refine cseq ?_
  refine creg ?_
  refine l1 (ldw 0 Try.isAgg37 Try.sizeOf37 rfl rfl rfl) ?_
  refine l1 (cl hb107 rfl (mc rfl mn) (fun w hw => placed_calls _ w)) ?_
  refine l1 (nt rfl) ?_
  refine l1 (mvb rfl) ?_
  refine l1g rfl (gwf rfl) (fun h => fa fa37_7 rfl) ?_
  refine l1g rfl (gwf rfl) (fun h => ldc 0 Try.isAgg35 rfl (gvt h) rfl) ?_
  refine l1g rfl (gwf rfl) (fun h => lens sl35 rfl (gvt h)) ?_
  refine l1g rfl (gwf rfl) (fun h => gtr (gvt h) rfl) ?_
  refine l1 (pk_or rfl rfl rfl) ?_
  refine l1 (mvb rfl) ?_
  refine l1g rfl (gwf rfl) (fun h => fa fa37_7 rfl) ?_
  refine l1g rfl (gwf rfl) (fun h => ldc 0 Try.isAgg35 rfl (gvt h) rfl) ?_
  refine l1g rfl (gwf rfl) (fun h => cl hb108 rfl (mc (gvt h) mn) (fun w hw => sorted_calls w _ _ _ _ kx.n (Sl.keptS hx hw) kx.tok)) ?_
  refine l1g rfl (gwf rfl) (fun h => nt (gvt h)) ?_
  refine l1 (pk_or rfl rfl rfl) ?_
  refine l1 (mvb rfl) ?_
  refine l1g rfl (gwf rfl) (fun h => fa fa37_10 rfl) ?_
  refine l1g rfl (gwf rfl) (fun h => ldc 0 Try.isAgg3 rfl (gvt h) rfl) ?_
  refine l1g rfl (gwf rfl) (fun h => sub (gvt h) rfl) ?_
  refine l1g rfl (gwf rfl) (fun h => cl hb109 rfl (mc (gvt h) mn) (fun w hw => isPad_calls _ w)) ?_
  refine l1g rfl (gwf rfl) (fun h => nt (gvt h)) ?_
  refine l1 (pk_or rfl rfl rfl) ?_
  refine lnil ?_
  refine nthen ?_
  refine cif rfl (fun h1 => ?_) (fun h1 => ?_)
  · skip
    refine cseq ?_
    refine creg ?_
    refine l1 (asgb rfl) ?_
    refine lnil ?_
    refine nthen ?_
    refine cret ?_
    refine nthenR ?_
    exact fin1b rfl rfl (by first | rfl | (simp only [formedH, plainB, h1, cond_true, cond_false]; done))
  · skip
    refine cskip ?_
    refine nthen ?_
    refine cseq ?_
    refine creg ?_
    refine l1 (fa fa37_4 rfl) ?_
    refine l1 (ldc 0 Try.isAgg4 rfl rfl rfl) ?_
    refine l1 (nt rfl) ?_
    refine l1 (mvb rfl) ?_
    refine l1g rfl (gwf rfl) (fun h => fa fa37_7 rfl) ?_
    refine l1g rfl (gwf rfl) (fun h => ldc 0 Try.isAgg35 rfl (gvt h) rfl) ?_
    refine l1g rfl (gwf rfl) (fun h => lens sl35 rfl (gvt h)) ?_
    refine l1g rfl (gwf rfl) (fun h => eql (gvt h) rfl) ?_
    refine l1g rfl (gwf rfl) (fun h => mvb (gvt h)) ?_
    refine l1g rfl (ggt rfl) (fun h => fa fa37_6 rfl) ?_
    refine l1g rfl (ggt rfl) (fun h => lda 0 Try.isAgg34 Try.sizeOf34 rfl (gvt h) (encH_item _) rfl) ?_
    refine l1g rfl (ggt rfl) (fun h => bld0 bk34z) ?_
    refine l1g rfl (ggt rfl) (fun h => eqla (gvt h) (gvt h) (fun w => eql34 _ _ w)) ?_
    refine l1g rfl (gwf rfl) (fun h => pk_and (gvt h) (gva h) rfl) ?_
    refine l1 (pk_or rfl rfl rfl) ?_
    refine l1 (asgb rfl) ?_
    refine lnil ?_
    refine nthen ?_
    refine cret ?_
    exact fin1b rfl rfl (by first | rfl | (simp only [formedH, plainB, h1, cond_true, cond_false]; done))

theorem bk156 : ∀ w, (Instr.build 156 #[(0, .int .i64 64), (1, .int .i64 128), (2, .int .i64 256), (3, .int .i64 512), (4, .int .i64 1024), (5, .int .i64 2048)]).run Try.prog w = .ok (.agg [.int .i64 64, .int .i64 128, .int .i64 256, .int .i64 512, .int .i64 1024, .int .i64 2048].toArray) w := fun w => by kernel_rfl
def rbucketB (n : Int) : Int := bif decide (n < 64) then 64 else bif decide (n < 128) then 128 else bif decide (n < 256) then 256 else bif decide (n < 512) then 512 else bif decide (n < 1024) then 1024 else bif decide (n < 2048) then 2048 else 0

theorem rbucket_calls (n : Int) (w : World) : Calls Try.prog 111 #[.int .i64 n] w (Ret (.int .i64 (rbucketB n)) w) := by
  refine fn_calls (n := 18) Try.func111 rfl rfl (lb rfl) ?_
  refine cseq ?_
  refine creg ?_
  refine l1 (asgi rfl) ?_
  refine lnil ?_
  refine nthen ?_
  refine cseq ?_
  refine creg ?_
  refine l1 (bldk rfl bk156) ?_
  refine lal Try.zeroValue156 rfl (fun b1 => ?_)
  refine lstw 0 rfl rfl rfl Try.sizeOf156 rfl rfl rfl ?_
  refine lnil ?_
  refine nthen ?_
  refine cseq ?_
  refine cseq ?_
  refine creg ?_
  refine l1 (asgi rfl) ?_
  refine lnil ?_
  refine nthen ?_
  refine cblock ?_
  refine cloopN 7 ?_
  refine rsucc ?_
  refine cseq ?_
  refine cseq ?_
  refine creg ?_
  refine l1 (mvi rfl) ?_
  refine l1 (lss rfl rfl) ?_
  refine lnil ?_
  refine nthen ?_
  refine cift rfl ?_
  refine cskip ?_
  refine nthen ?_
  refine cseq ?_
  refine cblock ?_
  refine cseq ?_
  refine creg ?_
  refine l1 (mvi rfl) ?_
  refine l1 (mvi rfl) ?_
  refine l1 (ia ar156 rfl rfl (by decide) (by decide)) ?_
  refine l1 (ldc 0 Try.isAgg3 rfl rfl rfl) ?_
  refine l1 (lss rfl rfl) ?_
  refine lnil ?_
  refine nthen ?_
  refine cif rfl (fun h1 => ?_) (fun h1 => ?_)
  · skip
    refine cseq ?_
    refine creg ?_
    refine l1 (mvi rfl) ?_
    refine l1 (ia ar156 rfl rfl (by decide) (by decide)) ?_
    refine l1 (ldc 0 Try.isAgg3 rfl rfl rfl) ?_
    refine l1 (asgi rfl) ?_
    refine lnil ?_
    refine nthen ?_
    refine cret ?_
    refine nblkR ?_
    refine nthenR ?_
    refine nroundR ?_
    refine nblkR ?_
    refine nthenR ?_
    exact fin1i rfl rfl (by first | rfl | (simp only [rbucketB, h1, cond_true, cond_false]; done))
  · skip
    refine cskip ?_
    refine nblkN ?_
    refine nthen ?_
    refine creg ?_
    refine l1 (mvi rfl) ?_
    first | refine l1 (addn rfl rfl (ri (by omega) (by omega))) ?_ | refine l1 (add rfl rfl) ?_
    refine l1 (asgi rfl) ?_
    refine lnil ?_
    refine nround (rsucc ?_)
    refine cseq ?_
    refine cseq ?_
    refine creg ?_
    refine l1 (mvi rfl) ?_
    refine l1 (lss rfl rfl) ?_
    refine lnil ?_
    refine nthen ?_
    refine cift rfl ?_
    refine cskip ?_
    refine nthen ?_
    refine cseq ?_
    refine cblock ?_
    refine cseq ?_
    refine creg ?_
    refine l1 (mvi rfl) ?_
    refine l1 (mvi rfl) ?_
    refine l1 (ia ar156 rfl rfl (by decide) (by decide)) ?_
    refine l1 (ldc 0 Try.isAgg3 rfl rfl rfl) ?_
    refine l1 (lss rfl rfl) ?_
    refine lnil ?_
    refine nthen ?_
    refine cif rfl (fun h2 => ?_) (fun h2 => ?_)
    · skip
      refine cseq ?_
      refine creg ?_
      refine l1 (mvi rfl) ?_
      refine l1 (ia ar156 rfl rfl (by decide) (by decide)) ?_
      refine l1 (ldc 0 Try.isAgg3 rfl rfl rfl) ?_
      refine l1 (asgi rfl) ?_
      refine lnil ?_
      refine nthen ?_
      refine cret ?_
      refine nblkR ?_
      refine nthenR ?_
      refine nroundR ?_
      refine nblkR ?_
      refine nthenR ?_
      exact fin1i rfl rfl (by first | rfl | (simp only [rbucketB, h1, h2, cond_true, cond_false]; done))
    · skip
      refine cskip ?_
      refine nblkN ?_
      refine nthen ?_
      refine creg ?_
      refine l1 (mvi rfl) ?_
      first | refine l1 (addn rfl rfl (ri (by omega) (by omega))) ?_ | refine l1 (add rfl rfl) ?_
      refine l1 (asgi rfl) ?_
      refine lnil ?_
      refine nround (rsucc ?_)
      refine cseq ?_
      refine cseq ?_
      refine creg ?_
      refine l1 (mvi rfl) ?_
      refine l1 (lss rfl rfl) ?_
      refine lnil ?_
      refine nthen ?_
      refine cift rfl ?_
      refine cskip ?_
      refine nthen ?_
      refine cseq ?_
      refine cblock ?_
      refine cseq ?_
      refine creg ?_
      refine l1 (mvi rfl) ?_
      refine l1 (mvi rfl) ?_
      refine l1 (ia ar156 rfl rfl (by decide) (by decide)) ?_
      refine l1 (ldc 0 Try.isAgg3 rfl rfl rfl) ?_
      refine l1 (lss rfl rfl) ?_
      refine lnil ?_
      refine nthen ?_
      refine cif rfl (fun h3 => ?_) (fun h3 => ?_)
      · skip
        refine cseq ?_
        refine creg ?_
        refine l1 (mvi rfl) ?_
        refine l1 (ia ar156 rfl rfl (by decide) (by decide)) ?_
        refine l1 (ldc 0 Try.isAgg3 rfl rfl rfl) ?_
        refine l1 (asgi rfl) ?_
        refine lnil ?_
        refine nthen ?_
        refine cret ?_
        refine nblkR ?_
        refine nthenR ?_
        refine nroundR ?_
        refine nblkR ?_
        refine nthenR ?_
        exact fin1i rfl rfl (by first | rfl | (simp only [rbucketB, h1, h2, h3, cond_true, cond_false]; done))
      · skip
        refine cskip ?_
        refine nblkN ?_
        refine nthen ?_
        refine creg ?_
        refine l1 (mvi rfl) ?_
        first | refine l1 (addn rfl rfl (ri (by omega) (by omega))) ?_ | refine l1 (add rfl rfl) ?_
        refine l1 (asgi rfl) ?_
        refine lnil ?_
        refine nround (rsucc ?_)
        refine cseq ?_
        refine cseq ?_
        refine creg ?_
        refine l1 (mvi rfl) ?_
        refine l1 (lss rfl rfl) ?_
        refine lnil ?_
        refine nthen ?_
        refine cift rfl ?_
        refine cskip ?_
        refine nthen ?_
        refine cseq ?_
        refine cblock ?_
        refine cseq ?_
        refine creg ?_
        refine l1 (mvi rfl) ?_
        refine l1 (mvi rfl) ?_
        refine l1 (ia ar156 rfl rfl (by decide) (by decide)) ?_
        refine l1 (ldc 0 Try.isAgg3 rfl rfl rfl) ?_
        refine l1 (lss rfl rfl) ?_
        refine lnil ?_
        refine nthen ?_
        refine cif rfl (fun h4 => ?_) (fun h4 => ?_)
        · skip
          refine cseq ?_
          refine creg ?_
          refine l1 (mvi rfl) ?_
          refine l1 (ia ar156 rfl rfl (by decide) (by decide)) ?_
          refine l1 (ldc 0 Try.isAgg3 rfl rfl rfl) ?_
          refine l1 (asgi rfl) ?_
          refine lnil ?_
          refine nthen ?_
          refine cret ?_
          refine nblkR ?_
          refine nthenR ?_
          refine nroundR ?_
          refine nblkR ?_
          refine nthenR ?_
          exact fin1i rfl rfl (by first | rfl | (simp only [rbucketB, h1, h2, h3, h4, cond_true, cond_false]; done))
        · skip
          refine cskip ?_
          refine nblkN ?_
          refine nthen ?_
          refine creg ?_
          refine l1 (mvi rfl) ?_
          first | refine l1 (addn rfl rfl (ri (by omega) (by omega))) ?_ | refine l1 (add rfl rfl) ?_
          refine l1 (asgi rfl) ?_
          refine lnil ?_
          refine nround (rsucc ?_)
          refine cseq ?_
          refine cseq ?_
          refine creg ?_
          refine l1 (mvi rfl) ?_
          refine l1 (lss rfl rfl) ?_
          refine lnil ?_
          refine nthen ?_
          refine cift rfl ?_
          refine cskip ?_
          refine nthen ?_
          refine cseq ?_
          refine cblock ?_
          refine cseq ?_
          refine creg ?_
          refine l1 (mvi rfl) ?_
          refine l1 (mvi rfl) ?_
          refine l1 (ia ar156 rfl rfl (by decide) (by decide)) ?_
          refine l1 (ldc 0 Try.isAgg3 rfl rfl rfl) ?_
          refine l1 (lss rfl rfl) ?_
          refine lnil ?_
          refine nthen ?_
          refine cif rfl (fun h5 => ?_) (fun h5 => ?_)
          · skip
            refine cseq ?_
            refine creg ?_
            refine l1 (mvi rfl) ?_
            refine l1 (ia ar156 rfl rfl (by decide) (by decide)) ?_
            refine l1 (ldc 0 Try.isAgg3 rfl rfl rfl) ?_
            refine l1 (asgi rfl) ?_
            refine lnil ?_
            refine nthen ?_
            refine cret ?_
            refine nblkR ?_
            refine nthenR ?_
            refine nroundR ?_
            refine nblkR ?_
            refine nthenR ?_
            exact fin1i rfl rfl (by first | rfl | (simp only [rbucketB, h1, h2, h3, h4, h5, cond_true, cond_false]; done))
          · skip
            refine cskip ?_
            refine nblkN ?_
            refine nthen ?_
            refine creg ?_
            refine l1 (mvi rfl) ?_
            first | refine l1 (addn rfl rfl (ri (by omega) (by omega))) ?_ | refine l1 (add rfl rfl) ?_
            refine l1 (asgi rfl) ?_
            refine lnil ?_
            refine nround (rsucc ?_)
            refine cseq ?_
            refine cseq ?_
            refine creg ?_
            refine l1 (mvi rfl) ?_
            refine l1 (lss rfl rfl) ?_
            refine lnil ?_
            refine nthen ?_
            refine cift rfl ?_
            refine cskip ?_
            refine nthen ?_
            refine cseq ?_
            refine cblock ?_
            refine cseq ?_
            refine creg ?_
            refine l1 (mvi rfl) ?_
            refine l1 (mvi rfl) ?_
            refine l1 (ia ar156 rfl rfl (by decide) (by decide)) ?_
            refine l1 (ldc 0 Try.isAgg3 rfl rfl rfl) ?_
            refine l1 (lss rfl rfl) ?_
            refine lnil ?_
            refine nthen ?_
            refine cif rfl (fun h6 => ?_) (fun h6 => ?_)
            · skip
              refine cseq ?_
              refine creg ?_
              refine l1 (mvi rfl) ?_
              refine l1 (ia ar156 rfl rfl (by decide) (by decide)) ?_
              refine l1 (ldc 0 Try.isAgg3 rfl rfl rfl) ?_
              refine l1 (asgi rfl) ?_
              refine lnil ?_
              refine nthen ?_
              refine cret ?_
              refine nblkR ?_
              refine nthenR ?_
              refine nroundR ?_
              refine nblkR ?_
              refine nthenR ?_
              exact fin1i rfl rfl (by first | rfl | (simp only [rbucketB, h1, h2, h3, h4, h5, h6, cond_true, cond_false]; done))
            · skip
              refine cskip ?_
              refine nblkN ?_
              refine nthen ?_
              refine creg ?_
              refine l1 (mvi rfl) ?_
              first | refine l1 (addn rfl rfl (ri (by omega) (by omega))) ?_ | refine l1 (add rfl rfl) ?_
              refine l1 (asgi rfl) ?_
              refine lnil ?_
              refine nround (rsucc ?_)
              refine cseq ?_
              refine cseq ?_
              refine creg ?_
              refine l1 (mvi rfl) ?_
              refine l1 (lss rfl rfl) ?_
              refine lnil ?_
              refine nthen ?_
              refine ciff rfl ?_
              refine cexit ?_
              refine nthenE ?_
              refine nroundE ?_
              refine nblkE ?_
              refine nthen ?_
              refine cseq ?_
              refine creg ?_
              refine l1 (asgi rfl) ?_
              refine lnil ?_
              refine nthen ?_
              refine cret ?_
              exact fin1i rfl rfl (by first | rfl | (simp only [rbucketB, h1, h2, h3, h4, h5, h6, cond_true, cond_false]; done))

def rplcB (x : Hd) : Bool := ((((((((decide (x.writer < 1) || decide (x.writer > 6)) || decide (x.seq < 1)) || decide (x.seq > 1048576)) || decide (x.epoch < 0)) || decide (x.epoch > 255)) || decide (x.time > 1099511627776)) || decide ((x.tn : Int) > 8)) || !sortedT x.tn x.tok)
def rsizeB (x : Hd) : Bool := (decide (x.size ≥ 80) && decide (x.size ≤ 2064)) && decide (rbucketB (x.size - 17) = x.size - 16)
def rformedH (x : Hd) : Bool := bif rplcB x then false else knowB x.knows (((rsizeB x && firstB x) && plainB x) && decide (x.knows (x.writer - 1).toNat = x.seq - 1))
theorem rplc_no {x : Hd} (h : rplcB x = false) : 1 ≤ x.writer ∧ x.writer ≤ 6 ∧ 1 ≤ x.seq ∧ x.seq ≤ 1048576 := by
  simp [rplcB] at h; omega

set_option maxHeartbeats 1000000 in
theorem rformed_calls (x : Hd) (w : World) (hx : HdIn w x) (kx : HdOk x) : Calls Try.prog 77 #[.agg (encH x).toArray] w (Ret (.bool (rformedH x)) w) := by
  refine fn_calls (n := 122) Try.func77 rfl rfl (lb rfl) ?_
  refine cseq ?_
  refine creg ?_
  refine lbxa rfl (fun b1 => ?_)
  refine l1 (asgb rfl) ?_
  refine lnil ?_
  refine nthen ?_
  refine cseq ?_
  refine cseq ?_
  refine creg ?_
  refine l1 (fa fa37_0 rfl) ?_
  refine l1 (ldc 0 Try.isAgg3 rfl rfl rfl) ?_
  refine l1 (lss rfl rfl) ?_
  refine l1 (mvb rfl) ?_
  refine l1g rfl (gwf rfl) (fun h => fa fa37_0 rfl) ?_
  refine l1g rfl (gwf rfl) (fun h => ldc 0 Try.isAgg3 rfl (gvt h) rfl) ?_
  refine l1g rfl (gwf rfl) (fun h => gtr (gvt h) rfl) ?_
  refine l1 (pk_or rfl rfl rfl) ?_
  refine l1 (mvb rfl) ?_
  refine l1g rfl (gwf rfl) (fun h => fa fa37_1 rfl) ?_
  refine l1g rfl (gwf rfl) (fun h => ldc 0 Try.isAgg22 rfl (gvt h) rfl) ?_
  refine l1g rfl (gwf rfl) (fun h => lss (gvt h) rfl) ?_
  refine l1 (pk_or rfl rfl rfl) ?_
  refine l1 (mvb rfl) ?_
  refine l1g rfl (gwf rfl) (fun h => fa fa37_1 rfl) ?_
  refine l1g rfl (gwf rfl) (fun h => ldc 0 Try.isAgg22 rfl (gvt h) rfl) ?_
  refine l1g rfl (gwf rfl) (fun h => gtr (gvt h) rfl) ?_
  refine l1 (pk_or rfl rfl rfl) ?_
  refine l1 (mvb rfl) ?_
  refine l1g rfl (gwf rfl) (fun h => fa fa37_3 rfl) ?_
  refine l1g rfl (gwf rfl) (fun h => ldc 0 Try.isAgg3 rfl (gvt h) rfl) ?_
  refine l1g rfl (gwf rfl) (fun h => lss (gvt h) rfl) ?_
  refine l1 (pk_or rfl rfl rfl) ?_
  refine l1 (mvb rfl) ?_
  refine l1g rfl (gwf rfl) (fun h => fa fa37_3 rfl) ?_
  refine l1g rfl (gwf rfl) (fun h => ldc 0 Try.isAgg3 rfl (gvt h) rfl) ?_
  refine l1g rfl (gwf rfl) (fun h => gtr (gvt h) rfl) ?_
  refine l1 (pk_or rfl rfl rfl) ?_
  refine l1 (mvb rfl) ?_
  refine l1g rfl (gwf rfl) (fun h => fa fa37_5 rfl) ?_
  refine l1g rfl (gwf rfl) (fun h => ldc 0 Try.isAgg22 rfl (gvt h) rfl) ?_
  refine l1g rfl (gwf rfl) (fun h => gtr (gvt h) rfl) ?_
  refine l1 (pk_or rfl rfl rfl) ?_
  refine l1 (mvb rfl) ?_
  refine l1g rfl (gwf rfl) (fun h => fa fa37_7 rfl) ?_
  refine l1g rfl (gwf rfl) (fun h => ldc 0 Try.isAgg35 rfl (gvt h) rfl) ?_
  refine l1g rfl (gwf rfl) (fun h => lens sl35 rfl (gvt h)) ?_
  refine l1g rfl (gwf rfl) (fun h => gtr (gvt h) rfl) ?_
  refine l1 (pk_or rfl rfl rfl) ?_
  refine l1 (mvb rfl) ?_
  refine l1g rfl (gwf rfl) (fun h => fa fa37_7 rfl) ?_
  refine l1g rfl (gwf rfl) (fun h => ldc 0 Try.isAgg35 rfl (gvt h) rfl) ?_
  refine l1g rfl (gwf rfl) (fun h => cl hb110 rfl (mc (gvt h) mn) (fun w hw => rsorted_calls w _ _ _ _ kx.n (Sl.keptS hx hw) kx.tok)) ?_
  refine l1g rfl (gwf rfl) (fun h => nt (gvt h)) ?_
  refine l1 (pk_or rfl rfl rfl) ?_
  refine lnil ?_
  refine nthen ?_
  refine cif rfl (fun h1 => ?_) (fun h1 => ?_)
  · change rplcB x = _ at h1
    refine cseq ?_
    refine creg ?_
    refine l1 (asgb rfl) ?_
    refine lnil ?_
    refine nthen ?_
    refine cret ?_
    refine nthenR ?_
    exact fin1b rfl rfl (by first | rfl | (simp only [rformedH, knowB, rsizeB, firstB, plainB, h1, cond_true, cond_false]; done))
  · change rplcB x = _ at h1
    have hw6 := rplc_no h1
    refine cskip ?_
    refine nthen ?_
    refine cseq ?_
    refine cseq ?_
    refine creg ?_
    refine l1 (asgi rfl) ?_
    refine lnil ?_
    refine nthen ?_
    refine cblock ?_
    refine cloopN 7 ?_
    refine rsucc ?_
    refine cseq ?_
    refine cseq ?_
    refine creg ?_
    refine l1 (mvi rfl) ?_
    refine l1 (lss rfl rfl) ?_
    refine lnil ?_
    refine nthen ?_
    refine cift rfl ?_
    refine cskip ?_
    refine nthen ?_
    refine cseq ?_
    refine cblock ?_
    refine cseq ?_
    refine creg ?_
    refine l1 (mvi rfl) ?_
    refine l1 (fa fa37_8 rfl) ?_
    refine l1 (ia ar23 rfl rfl (by decide) (by decide)) ?_
    refine l1 (ldc 0 Try.isAgg22 rfl rfl rfl) ?_
    refine l1 (gtr rfl rfl) ?_
    refine lnil ?_
    refine nthen ?_
    refine cif rfl (fun h2 => ?_) (fun h2 => ?_)
    · skip
      refine cseq ?_
      refine creg ?_
      refine l1 (asgb rfl) ?_
      refine lnil ?_
      refine nthen ?_
      refine cret ?_
      refine nblkR ?_
      refine nthenR ?_
      refine nroundR ?_
      refine nblkR ?_
      refine nthenR ?_
      exact fin1b rfl rfl (by first | rfl | (simp only [rformedH, knowB, rsizeB, firstB, plainB, h1, h2, cond_true, cond_false]; done))
    · skip
      refine cskip ?_
      refine nblkN ?_
      refine nthen ?_
      refine creg ?_
      refine l1 (mvi rfl) ?_
      first | refine l1 (addn rfl rfl (ri (by omega) (by omega))) ?_ | refine l1 (add rfl rfl) ?_
      refine l1 (asgi rfl) ?_
      refine lnil ?_
      refine nround (rsucc ?_)
      refine cseq ?_
      refine cseq ?_
      refine creg ?_
      refine l1 (mvi rfl) ?_
      refine l1 (lss rfl rfl) ?_
      refine lnil ?_
      refine nthen ?_
      refine cift rfl ?_
      refine cskip ?_
      refine nthen ?_
      refine cseq ?_
      refine cblock ?_
      refine cseq ?_
      refine creg ?_
      refine l1 (mvi rfl) ?_
      refine l1 (fa fa37_8 rfl) ?_
      refine l1 (ia ar23 rfl rfl (by decide) (by decide)) ?_
      refine l1 (ldc 0 Try.isAgg22 rfl rfl rfl) ?_
      refine l1 (gtr rfl rfl) ?_
      refine lnil ?_
      refine nthen ?_
      refine cif rfl (fun h3 => ?_) (fun h3 => ?_)
      · skip
        refine cseq ?_
        refine creg ?_
        refine l1 (asgb rfl) ?_
        refine lnil ?_
        refine nthen ?_
        refine cret ?_
        refine nblkR ?_
        refine nthenR ?_
        refine nroundR ?_
        refine nblkR ?_
        refine nthenR ?_
        exact fin1b rfl rfl (by first | rfl | (simp only [rformedH, knowB, rsizeB, firstB, plainB, h1, h2, h3, cond_true, cond_false]; done))
      · skip
        refine cskip ?_
        refine nblkN ?_
        refine nthen ?_
        refine creg ?_
        refine l1 (mvi rfl) ?_
        first | refine l1 (addn rfl rfl (ri (by omega) (by omega))) ?_ | refine l1 (add rfl rfl) ?_
        refine l1 (asgi rfl) ?_
        refine lnil ?_
        refine nround (rsucc ?_)
        refine cseq ?_
        refine cseq ?_
        refine creg ?_
        refine l1 (mvi rfl) ?_
        refine l1 (lss rfl rfl) ?_
        refine lnil ?_
        refine nthen ?_
        refine cift rfl ?_
        refine cskip ?_
        refine nthen ?_
        refine cseq ?_
        refine cblock ?_
        refine cseq ?_
        refine creg ?_
        refine l1 (mvi rfl) ?_
        refine l1 (fa fa37_8 rfl) ?_
        refine l1 (ia ar23 rfl rfl (by decide) (by decide)) ?_
        refine l1 (ldc 0 Try.isAgg22 rfl rfl rfl) ?_
        refine l1 (gtr rfl rfl) ?_
        refine lnil ?_
        refine nthen ?_
        refine cif rfl (fun h4 => ?_) (fun h4 => ?_)
        · skip
          refine cseq ?_
          refine creg ?_
          refine l1 (asgb rfl) ?_
          refine lnil ?_
          refine nthen ?_
          refine cret ?_
          refine nblkR ?_
          refine nthenR ?_
          refine nroundR ?_
          refine nblkR ?_
          refine nthenR ?_
          exact fin1b rfl rfl (by first | rfl | (simp only [rformedH, knowB, rsizeB, firstB, plainB, h1, h2, h3, h4, cond_true, cond_false]; done))
        · skip
          refine cskip ?_
          refine nblkN ?_
          refine nthen ?_
          refine creg ?_
          refine l1 (mvi rfl) ?_
          first | refine l1 (addn rfl rfl (ri (by omega) (by omega))) ?_ | refine l1 (add rfl rfl) ?_
          refine l1 (asgi rfl) ?_
          refine lnil ?_
          refine nround (rsucc ?_)
          refine cseq ?_
          refine cseq ?_
          refine creg ?_
          refine l1 (mvi rfl) ?_
          refine l1 (lss rfl rfl) ?_
          refine lnil ?_
          refine nthen ?_
          refine cift rfl ?_
          refine cskip ?_
          refine nthen ?_
          refine cseq ?_
          refine cblock ?_
          refine cseq ?_
          refine creg ?_
          refine l1 (mvi rfl) ?_
          refine l1 (fa fa37_8 rfl) ?_
          refine l1 (ia ar23 rfl rfl (by decide) (by decide)) ?_
          refine l1 (ldc 0 Try.isAgg22 rfl rfl rfl) ?_
          refine l1 (gtr rfl rfl) ?_
          refine lnil ?_
          refine nthen ?_
          refine cif rfl (fun h5 => ?_) (fun h5 => ?_)
          · skip
            refine cseq ?_
            refine creg ?_
            refine l1 (asgb rfl) ?_
            refine lnil ?_
            refine nthen ?_
            refine cret ?_
            refine nblkR ?_
            refine nthenR ?_
            refine nroundR ?_
            refine nblkR ?_
            refine nthenR ?_
            exact fin1b rfl rfl (by first | rfl | (simp only [rformedH, knowB, rsizeB, firstB, plainB, h1, h2, h3, h4, h5, cond_true, cond_false]; done))
          · skip
            refine cskip ?_
            refine nblkN ?_
            refine nthen ?_
            refine creg ?_
            refine l1 (mvi rfl) ?_
            first | refine l1 (addn rfl rfl (ri (by omega) (by omega))) ?_ | refine l1 (add rfl rfl) ?_
            refine l1 (asgi rfl) ?_
            refine lnil ?_
            refine nround (rsucc ?_)
            refine cseq ?_
            refine cseq ?_
            refine creg ?_
            refine l1 (mvi rfl) ?_
            refine l1 (lss rfl rfl) ?_
            refine lnil ?_
            refine nthen ?_
            refine cift rfl ?_
            refine cskip ?_
            refine nthen ?_
            refine cseq ?_
            refine cblock ?_
            refine cseq ?_
            refine creg ?_
            refine l1 (mvi rfl) ?_
            refine l1 (fa fa37_8 rfl) ?_
            refine l1 (ia ar23 rfl rfl (by decide) (by decide)) ?_
            refine l1 (ldc 0 Try.isAgg22 rfl rfl rfl) ?_
            refine l1 (gtr rfl rfl) ?_
            refine lnil ?_
            refine nthen ?_
            refine cif rfl (fun h6 => ?_) (fun h6 => ?_)
            · skip
              refine cseq ?_
              refine creg ?_
              refine l1 (asgb rfl) ?_
              refine lnil ?_
              refine nthen ?_
              refine cret ?_
              refine nblkR ?_
              refine nthenR ?_
              refine nroundR ?_
              refine nblkR ?_
              refine nthenR ?_
              exact fin1b rfl rfl (by first | rfl | (simp only [rformedH, knowB, rsizeB, firstB, plainB, h1, h2, h3, h4, h5, h6, cond_true, cond_false]; done))
            · skip
              refine cskip ?_
              refine nblkN ?_
              refine nthen ?_
              refine creg ?_
              refine l1 (mvi rfl) ?_
              first | refine l1 (addn rfl rfl (ri (by omega) (by omega))) ?_ | refine l1 (add rfl rfl) ?_
              refine l1 (asgi rfl) ?_
              refine lnil ?_
              refine nround (rsucc ?_)
              refine cseq ?_
              refine cseq ?_
              refine creg ?_
              refine l1 (mvi rfl) ?_
              refine l1 (lss rfl rfl) ?_
              refine lnil ?_
              refine nthen ?_
              refine cift rfl ?_
              refine cskip ?_
              refine nthen ?_
              refine cseq ?_
              refine cblock ?_
              refine cseq ?_
              refine creg ?_
              refine l1 (mvi rfl) ?_
              refine l1 (fa fa37_8 rfl) ?_
              refine l1 (ia ar23 rfl rfl (by decide) (by decide)) ?_
              refine l1 (ldc 0 Try.isAgg22 rfl rfl rfl) ?_
              refine l1 (gtr rfl rfl) ?_
              refine lnil ?_
              refine nthen ?_
              refine cif rfl (fun h7 => ?_) (fun h7 => ?_)
              · skip
                refine cseq ?_
                refine creg ?_
                refine l1 (asgb rfl) ?_
                refine lnil ?_
                refine nthen ?_
                refine cret ?_
                refine nblkR ?_
                refine nthenR ?_
                refine nroundR ?_
                refine nblkR ?_
                refine nthenR ?_
                exact fin1b rfl rfl (by first | rfl | (simp only [rformedH, knowB, rsizeB, firstB, plainB, h1, h2, h3, h4, h5, h6, h7, cond_true, cond_false]; done))
              · skip
                refine cskip ?_
                refine nblkN ?_
                refine nthen ?_
                refine creg ?_
                refine l1 (mvi rfl) ?_
                first | refine l1 (addn rfl rfl (ri (by omega) (by omega))) ?_ | refine l1 (add rfl rfl) ?_
                refine l1 (asgi rfl) ?_
                refine lnil ?_
                refine nround (rsucc ?_)
                refine cseq ?_
                refine cseq ?_
                refine creg ?_
                refine l1 (mvi rfl) ?_
                refine l1 (lss rfl rfl) ?_
                refine lnil ?_
                refine nthen ?_
                refine ciff rfl ?_
                refine cexit ?_
                refine nthenE ?_
                refine nroundE ?_
                refine nblkE ?_
                refine nthen ?_
                refine cseq ?_
                refine cregq mo (by kernel_rfl) ?_
                refine q1 (fa fa37_10 rfl) ?_
                refine q1 (ldc 0 Try.isAgg3 rfl rfl rfl) ?_
                refine q1 (geq rfl rfl) ?_
                refine q1 (mvb rfl) ?_
                refine q1g rfl (gwt rfl) (fun h => fa fa37_10 rfl) ?_
                refine q1g rfl (gwt rfl) (fun h => ldc 0 Try.isAgg3 rfl (gvt h) rfl) ?_
                refine q1g rfl (gwt rfl) (fun h => leq (gvt h) rfl) ?_
                refine q1 (pk_and rfl rfl rfl) ?_
                refine q1 (mvb rfl) ?_
                refine q1g rfl (gwt rfl) (fun h => fa fa37_10 rfl) ?_
                refine q1g rfl (gwt rfl) (fun h => ldc 0 Try.isAgg3 rfl (gvt h) rfl) ?_
                refine q1g rfl (gwt rfl) (fun h => subn (gvt h) rfl (ri (by first | omega | (simp at h; omega)) (by first | omega | (simp at h; omega)))) ?_
                refine q1g rfl (gwt rfl) (fun h => cl hb111 rfl (mc (gvt h) mn) (fun w hw => rbucket_calls _ w)) ?_
                refine q1g rfl (gwt rfl) (fun h => fa fa37_10 rfl) ?_
                refine q1g rfl (gwt rfl) (fun h => ldc 0 Try.isAgg3 rfl (gvt h) rfl) ?_
                refine q1g rfl (gwt rfl) (fun h => subn (gvt h) rfl (ri (by first | omega | (simp at h; omega)) (by first | omega | (simp at h; omega)))) ?_
                refine q1g rfl (gwt rfl) (fun h => eql (gvt h) (gvt h)) ?_
                refine q1 (pk_and rfl rfl rfl) ?_
                refine q1 (asgb rfl) ?_
                refine qnil ?_
                refine nthen ?_
                refine cseq ?_
                refine creg ?_
                refine l1 (fa fa37_1 rfl) ?_
                refine l1 (ldc 0 Try.isAgg22 rfl rfl rfl) ?_
                refine l1 (gtr rfl rfl) ?_
                refine l1 (mvb rfl) ?_
                refine l1g rfl (gwf rfl) (fun h => fa fa37_2 rfl) ?_
                refine l1g rfl (gwf rfl) (fun h => lda 0 Try.isAgg32 Try.sizeOf32 rfl (gvt h) (encH_prev _) rfl) ?_
                refine l1g rfl (gwf rfl) (fun h => bld0 bk32z) ?_
                refine l1g rfl (gwf rfl) (fun h => eqla (gvt h) (gvt h) (fun w => eql32 _ _ w)) ?_
                refine l1 (pk_or rfl rfl rfl) ?_
                refine l1 (asgb rfl) ?_
                refine lnil ?_
                refine nthen ?_
                refine cseq ?_
                refine creg ?_
                refine l1 (fa fa37_4 rfl) ?_
                refine l1 (ldc 0 Try.isAgg4 rfl rfl rfl) ?_
                refine l1 (nt rfl) ?_
                refine l1 (mvb rfl) ?_
                refine l1g rfl (gwf rfl) (fun h => fa fa37_7 rfl) ?_
                refine l1g rfl (gwf rfl) (fun h => ldc 0 Try.isAgg35 rfl (gvt h) rfl) ?_
                refine l1g rfl (gwf rfl) (fun h => lens sl35 rfl (gvt h)) ?_
                refine l1g rfl (gwf rfl) (fun h => eql (gvt h) rfl) ?_
                refine l1g rfl (gwf rfl) (fun h => mvb (gvt h)) ?_
                refine l1g rfl (ggt rfl) (fun h => fa fa37_6 rfl) ?_
                refine l1g rfl (ggt rfl) (fun h => lda 0 Try.isAgg34 Try.sizeOf34 rfl (gvt h) (encH_item _) rfl) ?_
                refine l1g rfl (ggt rfl) (fun h => bld0 bk34z) ?_
                refine l1g rfl (ggt rfl) (fun h => eqla (gvt h) (gvt h) (fun w => eql34 _ _ w)) ?_
                refine l1g rfl (gwf rfl) (fun h => pk_and (gvt h) (gva h) rfl) ?_
                refine l1 (pk_or rfl rfl rfl) ?_
                refine l1 (asgb rfl) ?_
                refine lnil ?_
                refine nthen ?_
                refine cseq ?_
                refine cregq mo (by kernel_rfl) ?_
                refine q1 (mvb rfl) ?_
                refine q1 (mvb rfl) ?_
                refine q1g rfl (gwt rfl) (fun h => mvb rfl) ?_
                refine q1 (pk_and rfl rfl rfl) ?_
                refine q1 (mvb rfl) ?_
                refine q1g rfl (gwt rfl) (fun h => mvb rfl) ?_
                refine q1 (pk_and rfl rfl rfl) ?_
                refine q1 (mvb rfl) ?_
                refine q1g rfl (gwt rfl) (fun h => fa fa37_0 rfl) ?_
                refine q1g rfl (gwt rfl) (fun h => ldc 0 Try.isAgg3 rfl (gvt h) rfl) ?_
                refine q1g rfl (gwt rfl) (fun h => subn (gvt h) rfl (ri (by omega) (by omega))) ?_
                refine q1g rfl (gwt rfl) (fun h => fa fa37_8 rfl) ?_
                refine q1g rfl (gwt rfl) (fun h => ia ar23 (gvt h) (gvt h) (by omega) (by omega)) ?_
                refine q1g rfl (gwt rfl) (fun h => ldc 0 Try.isAgg22 rfl (gvt h) (encH_know _ _ (by omega))) ?_
                refine q1g rfl (gwt rfl) (fun h => fa fa37_1 rfl) ?_
                refine q1g rfl (gwt rfl) (fun h => ldc 0 Try.isAgg22 rfl (gvt h) rfl) ?_
                refine q1g rfl (gwt rfl) (fun h => subn (gvt h) rfl (ru (by omega) (by omega))) ?_
                refine q1g rfl (gwt rfl) (fun h => eql (gvt h) (gvt h)) ?_
                refine q1 (pk_and rfl rfl rfl) ?_
                refine q1 (asgb rfl) ?_
                refine qnil ?_
                refine nthen ?_
                refine cret ?_
                exact fin1b rfl rfl (by first | rfl | (simp only [rformedH, knowB, rsizeB, firstB, plainB, h1, h2, h3, h4, h5, h6, h7, cond_true, cond_false]; done))
end Go.Proofs.Ytkdbjhlkahkobaa
/- walks, printed by a program of ours -/
namespace Go.Proofs.Ytkdbjhlkahkobaa
open Jal Go.RowKit
set_option maxRecDepth 100000
def readyH (v : Vec) (x : Hd) : Bool := (formedH x && decide (v (x.writer - 1).toNat = x.seq - 1)) && greatV v x.knows
def rreadyH (v : Vec) (x : Hd) : Bool := bif (!rformedH x || decide (addU (v (x.writer - 1).toNat) 1 ≠ x.seq)) then false else rgreatV v x.knows
theorem vec_at (v : Vec) (i : Nat) (h : i < 6) : (encV v)[0 + i * 1]? = some (.int .u64 (v i)) := by
  have := encV_get v i h; simpa using this

theorem ready_calls (v : Vec) (x : Hd) (w : World) (hx : HdIn w x) (kx : HdOk x) : Calls Try.prog 38 #[.agg (encV v).toArray, .agg (encH x).toArray] w (Ret (.bool (readyH v x)) w) := by
  refine fn_calls (n := 24) Try.func38 rfl rfl (lb rfl) ?_
  refine cseq ?_
  refine creg ?_
  refine lbxa rfl (fun b1 => ?_)
  refine lbxa rfl (fun b2 => ?_)
  refine l1 (asgb rfl) ?_
  refine lnil ?_
  refine nthen ?_
  refine cseq ?_
  refine cregq mo (by kernel_rfl) ?_
  refine q1 (ldw 1 Try.isAgg37 Try.sizeOf37 rfl rfl rfl) ?_
  refine q1 (cl hb76 rfl (mc rfl mn) (fun w hw => hformed_calls _ w (Sl.keptS hx hw) kx)) ?_
  refine q1 (mvb rfl) ?_
  refine q1g rfl (gwt rfl) (fun h => fa fa37_0 rfl) ?_
  refine q1g rfl (gwt rfl) (fun h => ldc 1 Try.isAgg3 rfl (gvt h) rfl) ?_
  refine q1g rfl (gwt rfl) (fun h => subn (gvt h) rfl (ri (by have := formed_w h; omega) (by have := formed_w h; omega))) ?_
  refine q1g rfl (gwt rfl) (fun h => ia ar24 rfl (gvt h) (by have := formed_w h; omega) (by have := formed_w h; omega)) ?_
  refine q1g rfl (gwt rfl) (fun h => ldc 0 Try.isAgg22 rfl (gvt h) (vec_at _ _ (by have := formed_w h; omega))) ?_
  refine q1g rfl (gwt rfl) (fun h => fa fa37_1 rfl) ?_
  refine q1g rfl (gwt rfl) (fun h => ldc 1 Try.isAgg22 rfl (gvt h) rfl) ?_
  refine q1g rfl (gwt rfl) (fun h => subn (gvt h) rfl (ru (by have := formed_w h; omega) (by have := formed_w h; omega))) ?_
  refine q1g rfl (gwt rfl) (fun h => eql (gvt h) (gvt h)) ?_
  refine q1 (pk_and rfl rfl rfl) ?_
  refine q1 (mvb rfl) ?_
  refine q1g rfl (gwt rfl) (fun h => ldw 0 Try.isAgg24 Try.sizeOf24 rfl rfl rfl) ?_
  refine q1g rfl (gwt rfl) (fun h => fa fa37_8 rfl) ?_
  refine q1g rfl (gwt rfl) (fun h => lda 1 Try.isAgg23 Try.sizeOf23 rfl (gvt h) (encH_knows _) rfl) ?_
  refine q1g rfl (gwt rfl) (fun h => cl hb23 rfl (mc (gvt h) (mc (gvt h) mn)) (fun w hw => great_calls _ _ w)) ?_
  refine q1 (pk_and rfl rfl rfl) ?_
  refine q1 (asgb rfl) ?_
  refine qnil ?_
  refine nthen ?_
  refine cret ?_
  exact fin1 rfl rfl

theorem rformed_w {x : Hd} (h : rformedH x = true) : 1 ≤ x.writer ∧ x.writer ≤ 6 ∧ 1 ≤ x.seq ∧ x.seq ≤ 1048576 := by
  apply rplc_no
  cases hp : rplcB x with
  | false => rfl
  | true => simp [rformedH, hp] at h

theorem rready_calls (v : Vec) (x : Hd) (w : World) (hx : HdIn w x) (kx : HdOk x) : Calls Try.prog 39 #[.agg (encV v).toArray, .agg (encH x).toArray] w (Ret (.bool (rreadyH v x)) w) := by
  refine fn_calls (n := 32) Try.func39 rfl rfl (lb rfl) ?_
  refine cseq ?_
  refine creg ?_
  refine lbxa rfl (fun b1 => ?_)
  refine lbxa rfl (fun b2 => ?_)
  refine l1 (asgb rfl) ?_
  refine lnil ?_
  refine nthen ?_
  refine cseq ?_
  refine cseq ?_
  refine cregq mo (by kernel_rfl) ?_
  refine q1 (ldw 1 Try.isAgg37 Try.sizeOf37 rfl rfl rfl) ?_
  refine q1 (cl hb77 rfl (mc rfl mn) (fun w hw => rformed_calls _ w (Sl.keptS hx hw) kx)) ?_
  refine q1 (nt rfl) ?_
  refine q1 (mvb rfl) ?_
  refine q1g rfl (gwf rfl) (fun h => fa fa37_0 rfl) ?_
  refine q1g rfl (gwf rfl) (fun h => ldc 1 Try.isAgg3 rfl (gvt h) rfl) ?_
  refine q1g rfl (gwf rfl) (fun h => subn (gvt h) rfl (ri (by have := rformed_w (by simpa using h); omega) (by have := rformed_w (by simpa using h); omega))) ?_
  refine q1g rfl (gwf rfl) (fun h => ia ar24 rfl (gvt h) (by have := rformed_w (by simpa using h); omega) (by have := rformed_w (by simpa using h); omega)) ?_
  refine q1g rfl (gwf rfl) (fun h => ldc 0 Try.isAgg22 rfl (gvt h) (vec_at _ _ (by have := rformed_w (by simpa using h); omega))) ?_
  refine q1g rfl (gwf rfl) (fun h => add (gvt h) rfl) ?_
  refine q1g rfl (gwf rfl) (fun h => fa fa37_1 rfl) ?_
  refine q1g rfl (gwf rfl) (fun h => ldc 1 Try.isAgg22 rfl (gvt h) rfl) ?_
  refine q1g rfl (gwf rfl) (fun h => neq (gvt h) (gvt h)) ?_
  refine q1 (pk_or rfl rfl rfl) ?_
  refine qnil ?_
  refine nthen ?_
  refine cif rfl (fun h1 => ?_) (fun h1 => ?_)
  · change (!rformedH x || decide (addU (v (x.writer - 1).toNat) 1 ≠ x.seq)) = _ at h1
    refine cseq ?_
    refine creg ?_
    refine l1 (asgb rfl) ?_
    refine lnil ?_
    refine nthen ?_
    refine cret ?_
    refine nthenR ?_
    exact fin1b rfl rfl (by first | rfl | (simp only [rreadyH, rgreatV, h1, cond_true, cond_false]; done))
  · change (!rformedH x || decide (addU (v (x.writer - 1).toNat) 1 ≠ x.seq)) = _ at h1
    refine cskip ?_
    refine nthen ?_
    refine cseq ?_
    refine cseq ?_
    refine creg ?_
    refine l1 (asgi rfl) ?_
    refine lnil ?_
    refine nthen ?_
    refine cblock ?_
    refine cloopN 7 ?_
    refine rsucc ?_
    refine cseq ?_
    refine cseq ?_
    refine creg ?_
    refine l1 (mvi rfl) ?_
    refine l1 (lss rfl rfl) ?_
    refine lnil ?_
    refine nthen ?_
    refine cift rfl ?_
    refine cskip ?_
    refine nthen ?_
    refine cseq ?_
    refine cblock ?_
    refine cseq ?_
    refine cregq mo (by kernel_rfl) ?_
    refine q1 (mvi rfl) ?_
    refine q1 (ia ar24 rfl rfl (by decide) (by decide)) ?_
    refine q1 (ldc 0 Try.isAgg22 rfl rfl rfl) ?_
    refine q1 (mvi rfl) ?_
    refine q1 (fa fa37_8 rfl) ?_
    refine q1 (ia ar23 rfl rfl (by decide) (by decide)) ?_
    refine q1 (ldc 1 Try.isAgg22 rfl rfl rfl) ?_
    refine q1 (lss rfl rfl) ?_
    refine qnil ?_
    refine nthen ?_
    refine cif rfl (fun h2 => ?_) (fun h2 => ?_)
    · skip
      refine cseq ?_
      refine creg ?_
      refine l1 (asgb rfl) ?_
      refine lnil ?_
      refine nthen ?_
      refine cret ?_
      refine nblkR ?_
      refine nthenR ?_
      refine nroundR ?_
      refine nblkR ?_
      refine nthenR ?_
      exact fin1b rfl rfl (by first | rfl | (simp only [rreadyH, rgreatV, h1, h2, cond_true, cond_false]; done))
    · skip
      refine cskip ?_
      refine nblkN ?_
      refine nthen ?_
      refine creg ?_
      refine l1 (mvi rfl) ?_
      first | refine l1 (addn rfl rfl (ri (by omega) (by omega))) ?_ | refine l1 (add rfl rfl) ?_
      refine l1 (asgi rfl) ?_
      refine lnil ?_
      refine nround (rsucc ?_)
      refine cseq ?_
      refine cseq ?_
      refine creg ?_
      refine l1 (mvi rfl) ?_
      refine l1 (lss rfl rfl) ?_
      refine lnil ?_
      refine nthen ?_
      refine cift rfl ?_
      refine cskip ?_
      refine nthen ?_
      refine cseq ?_
      refine cblock ?_
      refine cseq ?_
      refine cregq mo (by kernel_rfl) ?_
      refine q1 (mvi rfl) ?_
      refine q1 (ia ar24 rfl rfl (by decide) (by decide)) ?_
      refine q1 (ldc 0 Try.isAgg22 rfl rfl rfl) ?_
      refine q1 (mvi rfl) ?_
      refine q1 (fa fa37_8 rfl) ?_
      refine q1 (ia ar23 rfl rfl (by decide) (by decide)) ?_
      refine q1 (ldc 1 Try.isAgg22 rfl rfl rfl) ?_
      refine q1 (lss rfl rfl) ?_
      refine qnil ?_
      refine nthen ?_
      refine cif rfl (fun h3 => ?_) (fun h3 => ?_)
      · skip
        refine cseq ?_
        refine creg ?_
        refine l1 (asgb rfl) ?_
        refine lnil ?_
        refine nthen ?_
        refine cret ?_
        refine nblkR ?_
        refine nthenR ?_
        refine nroundR ?_
        refine nblkR ?_
        refine nthenR ?_
        exact fin1b rfl rfl (by first | rfl | (simp only [rreadyH, rgreatV, h1, h2, h3, cond_true, cond_false]; done))
      · skip
        refine cskip ?_
        refine nblkN ?_
        refine nthen ?_
        refine creg ?_
        refine l1 (mvi rfl) ?_
        first | refine l1 (addn rfl rfl (ri (by omega) (by omega))) ?_ | refine l1 (add rfl rfl) ?_
        refine l1 (asgi rfl) ?_
        refine lnil ?_
        refine nround (rsucc ?_)
        refine cseq ?_
        refine cseq ?_
        refine creg ?_
        refine l1 (mvi rfl) ?_
        refine l1 (lss rfl rfl) ?_
        refine lnil ?_
        refine nthen ?_
        refine cift rfl ?_
        refine cskip ?_
        refine nthen ?_
        refine cseq ?_
        refine cblock ?_
        refine cseq ?_
        refine cregq mo (by kernel_rfl) ?_
        refine q1 (mvi rfl) ?_
        refine q1 (ia ar24 rfl rfl (by decide) (by decide)) ?_
        refine q1 (ldc 0 Try.isAgg22 rfl rfl rfl) ?_
        refine q1 (mvi rfl) ?_
        refine q1 (fa fa37_8 rfl) ?_
        refine q1 (ia ar23 rfl rfl (by decide) (by decide)) ?_
        refine q1 (ldc 1 Try.isAgg22 rfl rfl rfl) ?_
        refine q1 (lss rfl rfl) ?_
        refine qnil ?_
        refine nthen ?_
        refine cif rfl (fun h4 => ?_) (fun h4 => ?_)
        · skip
          refine cseq ?_
          refine creg ?_
          refine l1 (asgb rfl) ?_
          refine lnil ?_
          refine nthen ?_
          refine cret ?_
          refine nblkR ?_
          refine nthenR ?_
          refine nroundR ?_
          refine nblkR ?_
          refine nthenR ?_
          exact fin1b rfl rfl (by first | rfl | (simp only [rreadyH, rgreatV, h1, h2, h3, h4, cond_true, cond_false]; done))
        · skip
          refine cskip ?_
          refine nblkN ?_
          refine nthen ?_
          refine creg ?_
          refine l1 (mvi rfl) ?_
          first | refine l1 (addn rfl rfl (ri (by omega) (by omega))) ?_ | refine l1 (add rfl rfl) ?_
          refine l1 (asgi rfl) ?_
          refine lnil ?_
          refine nround (rsucc ?_)
          refine cseq ?_
          refine cseq ?_
          refine creg ?_
          refine l1 (mvi rfl) ?_
          refine l1 (lss rfl rfl) ?_
          refine lnil ?_
          refine nthen ?_
          refine cift rfl ?_
          refine cskip ?_
          refine nthen ?_
          refine cseq ?_
          refine cblock ?_
          refine cseq ?_
          refine cregq mo (by kernel_rfl) ?_
          refine q1 (mvi rfl) ?_
          refine q1 (ia ar24 rfl rfl (by decide) (by decide)) ?_
          refine q1 (ldc 0 Try.isAgg22 rfl rfl rfl) ?_
          refine q1 (mvi rfl) ?_
          refine q1 (fa fa37_8 rfl) ?_
          refine q1 (ia ar23 rfl rfl (by decide) (by decide)) ?_
          refine q1 (ldc 1 Try.isAgg22 rfl rfl rfl) ?_
          refine q1 (lss rfl rfl) ?_
          refine qnil ?_
          refine nthen ?_
          refine cif rfl (fun h5 => ?_) (fun h5 => ?_)
          · skip
            refine cseq ?_
            refine creg ?_
            refine l1 (asgb rfl) ?_
            refine lnil ?_
            refine nthen ?_
            refine cret ?_
            refine nblkR ?_
            refine nthenR ?_
            refine nroundR ?_
            refine nblkR ?_
            refine nthenR ?_
            exact fin1b rfl rfl (by first | rfl | (simp only [rreadyH, rgreatV, h1, h2, h3, h4, h5, cond_true, cond_false]; done))
          · skip
            refine cskip ?_
            refine nblkN ?_
            refine nthen ?_
            refine creg ?_
            refine l1 (mvi rfl) ?_
            first | refine l1 (addn rfl rfl (ri (by omega) (by omega))) ?_ | refine l1 (add rfl rfl) ?_
            refine l1 (asgi rfl) ?_
            refine lnil ?_
            refine nround (rsucc ?_)
            refine cseq ?_
            refine cseq ?_
            refine creg ?_
            refine l1 (mvi rfl) ?_
            refine l1 (lss rfl rfl) ?_
            refine lnil ?_
            refine nthen ?_
            refine cift rfl ?_
            refine cskip ?_
            refine nthen ?_
            refine cseq ?_
            refine cblock ?_
            refine cseq ?_
            refine cregq mo (by kernel_rfl) ?_
            refine q1 (mvi rfl) ?_
            refine q1 (ia ar24 rfl rfl (by decide) (by decide)) ?_
            refine q1 (ldc 0 Try.isAgg22 rfl rfl rfl) ?_
            refine q1 (mvi rfl) ?_
            refine q1 (fa fa37_8 rfl) ?_
            refine q1 (ia ar23 rfl rfl (by decide) (by decide)) ?_
            refine q1 (ldc 1 Try.isAgg22 rfl rfl rfl) ?_
            refine q1 (lss rfl rfl) ?_
            refine qnil ?_
            refine nthen ?_
            refine cif rfl (fun h6 => ?_) (fun h6 => ?_)
            · skip
              refine cseq ?_
              refine creg ?_
              refine l1 (asgb rfl) ?_
              refine lnil ?_
              refine nthen ?_
              refine cret ?_
              refine nblkR ?_
              refine nthenR ?_
              refine nroundR ?_
              refine nblkR ?_
              refine nthenR ?_
              exact fin1b rfl rfl (by first | rfl | (simp only [rreadyH, rgreatV, h1, h2, h3, h4, h5, h6, cond_true, cond_false]; done))
            · skip
              refine cskip ?_
              refine nblkN ?_
              refine nthen ?_
              refine creg ?_
              refine l1 (mvi rfl) ?_
              first | refine l1 (addn rfl rfl (ri (by omega) (by omega))) ?_ | refine l1 (add rfl rfl) ?_
              refine l1 (asgi rfl) ?_
              refine lnil ?_
              refine nround (rsucc ?_)
              refine cseq ?_
              refine cseq ?_
              refine creg ?_
              refine l1 (mvi rfl) ?_
              refine l1 (lss rfl rfl) ?_
              refine lnil ?_
              refine nthen ?_
              refine cift rfl ?_
              refine cskip ?_
              refine nthen ?_
              refine cseq ?_
              refine cblock ?_
              refine cseq ?_
              refine cregq mo (by kernel_rfl) ?_
              refine q1 (mvi rfl) ?_
              refine q1 (ia ar24 rfl rfl (by decide) (by decide)) ?_
              refine q1 (ldc 0 Try.isAgg22 rfl rfl rfl) ?_
              refine q1 (mvi rfl) ?_
              refine q1 (fa fa37_8 rfl) ?_
              refine q1 (ia ar23 rfl rfl (by decide) (by decide)) ?_
              refine q1 (ldc 1 Try.isAgg22 rfl rfl rfl) ?_
              refine q1 (lss rfl rfl) ?_
              refine qnil ?_
              refine nthen ?_
              refine cif rfl (fun h7 => ?_) (fun h7 => ?_)
              · skip
                refine cseq ?_
                refine creg ?_
                refine l1 (asgb rfl) ?_
                refine lnil ?_
                refine nthen ?_
                refine cret ?_
                refine nblkR ?_
                refine nthenR ?_
                refine nroundR ?_
                refine nblkR ?_
                refine nthenR ?_
                exact fin1b rfl rfl (by first | rfl | (simp only [rreadyH, rgreatV, h1, h2, h3, h4, h5, h6, h7, cond_true, cond_false]; done))
              · skip
                refine cskip ?_
                refine nblkN ?_
                refine nthen ?_
                refine creg ?_
                refine l1 (mvi rfl) ?_
                first | refine l1 (addn rfl rfl (ri (by omega) (by omega))) ?_ | refine l1 (add rfl rfl) ?_
                refine l1 (asgi rfl) ?_
                refine lnil ?_
                refine nround (rsucc ?_)
                refine cseq ?_
                refine cseq ?_
                refine creg ?_
                refine l1 (mvi rfl) ?_
                refine l1 (lss rfl rfl) ?_
                refine lnil ?_
                refine nthen ?_
                refine ciff rfl ?_
                refine cexit ?_
                refine nthenE ?_
                refine nroundE ?_
                refine nblkE ?_
                refine nthen ?_
                refine cseq ?_
                refine creg ?_
                refine l1 (asgb rfl) ?_
                refine lnil ?_
                refine nthen ?_
                refine cret ?_
                exact fin1b rfl rfl (by first | rfl | (simp only [rreadyH, rgreatV, h1, h2, h3, h4, h5, h6, h7, cond_true, cond_false]; done))

theorem isB_iff {n : Int} (hn : I64 n) : isB n = true ↔ n = 64 ∨ n = 128 ∨ n = 256 ∨ n = 512 ∨ n = 1024 ∨ n = 2048 := by
  by_cases h : n = -9223372036854775808
  · subst h; decide
  have hw : IntKind.i64.wrap (n - 1) = n - 1 := ri (by have := hn.1; omega) (by have := hn.2; omega)
  unfold isB bucketE bucketB
  rw [hw]
  simp only [cond_eq_ite, decide_eq_true_eq, Bool.and_eq_true]
  by_cases h0 : n - 1 < 0
  · simp [h0]; omega
  by_cases h1 : n - 1 < 64
  · simp [h0, h1]; omega
  by_cases h2 : n - 1 < 128
  · simp [h0, h1, h2]; omega
  by_cases h3 : n - 1 < 256
  · simp [h0, h1, h2, h3]; omega
  by_cases h4 : n - 1 < 512
  · simp [h0, h1, h2, h3, h4]; omega
  by_cases h5 : n - 1 < 1024
  · simp [h0, h1, h2, h3, h4, h5]; omega
  by_cases h6 : n - 1 < 2048
  · simp [h0, h1, h2, h3, h4, h5, h6]; omega
  · simp [h0, h1, h2, h3, h4, h5, h6]; omega
theorem rsize_iff {x : Hd} : rsizeB x = true ↔ x.size - 16 = 64 ∨ x.size - 16 = 128 ∨ x.size - 16 = 256 ∨ x.size - 16 = 512 ∨ x.size - 16 = 1024 ∨ x.size - 16 = 2048 := by
  unfold rsizeB rbucketB
  simp only [cond_eq_ite, decide_eq_true_eq, Bool.and_eq_true]
  by_cases h1 : x.size - 17 < 64
  · simp [h1]; omega
  by_cases h2 : x.size - 17 < 128
  · simp [h1, h2]; omega
  by_cases h3 : x.size - 17 < 256
  · simp [h1, h2, h3]; omega
  by_cases h4 : x.size - 17 < 512
  · simp [h1, h2, h3, h4]; omega
  by_cases h5 : x.size - 17 < 1024
  · simp [h1, h2, h3, h4, h5]; omega
  by_cases h6 : x.size - 17 < 2048
  · simp [h1, h2, h3, h4, h5, h6]; omega
  · simp [h1, h2, h3, h4, h5, h6]; omega
theorem wrap16 {s : Int} (h : I64 s) : IntKind.i64.wrap (s - 16) = s - 16 ∨ (IntKind.i64.wrap (s - 16) > 100000 ∧ s < 0 ∧ I64 (IntKind.i64.wrap (s - 16))) := by
  obtain ⟨h1, h2⟩ := h
  unfold I64
  simp only [IntKind.wrap, IntKind.signed, IntKind.bits]
  simp
  omega
theorem size_eq {x : Hd} (h : I64 x.size) : isB (IntKind.i64.wrap (x.size - 16)) = rsizeB x := by
  apply Bool.eq_iff_iff.2
  rw [rsize_iff]
  rcases wrap16 h with hw | ⟨hw, hn, hi⟩
  · by_cases hs : -9223372036854775808 ≤ x.size - 16
    · rw [hw, isB_iff ⟨hs, by have := h.2; omega⟩]
    · exfalso
      have h1 : -9223372036854775808 ≤ IntKind.i64.wrap (x.size - 16) := by simp [IntKind.wrap, IntKind.signed, IntKind.bits]; omega
      rw [hw] at h1; exact hs h1
  · rw [isB_iff hi]; omega
theorem rformed_eq {x : Hd} (h : I64 x.size) : rformedH x = formedH x := by
  have hs := size_eq h
  unfold rformedH formedH placedB plcB rplcB knowB
  rw [hs]
  generalize sortedT x.tn x.tok = so
  generalize rsizeB x = rs
  generalize firstB x = fi
  generalize plainB x = pl
  generalize decide (x.writer < 1) = a1
  generalize decide (x.writer > 6) = a2
  generalize decide (x.seq < 1) = a3
  generalize decide (x.seq > 1048576) = a4
  generalize decide (x.epoch < 0) = a5
  generalize decide (x.epoch > 255) = a6
  generalize decide (x.time > 1099511627776) = a7
  generalize decide ((x.tn : Int) > 8) = a8
  generalize decide (x.knows 0 > 1048576) = k0
  generalize decide (x.knows 1 > 1048576) = k1
  generalize decide (x.knows 2 > 1048576) = k2
  generalize decide (x.knows 3 > 1048576) = k3
  generalize decide (x.knows 4 > 1048576) = k4
  generalize decide (x.knows 5 > 1048576) = k5
  have e : decide (x.knows (x.writer - 1).toNat ≠ x.seq - 1) = !decide (x.knows (x.writer - 1).toNat = x.seq - 1) := by simp
  rw [e]
  generalize decide (x.knows (x.writer - 1).toNat = x.seq - 1) = q
  cases a1 <;> cases a2 <;> cases a3 <;> cases a4 <;> cases a5 <;> cases a6 <;> cases a7 <;> try rfl
  cases a8 <;> cases so <;> cases q <;> cases k0 <;> cases k1 <;> cases k2 <;> cases k3 <;> cases k4 <;> cases k5 <;> cases fi <;> cases pl <;> cases rs <;> rfl
theorem rready_eq (v : Vec) (x : Hd) (hv : ∀ i, i < 6 → U64 (v i)) (kx : HdOk x) : rreadyH v x = readyH v x := by
  unfold rreadyH readyH
  rw [rformed_eq kx.z, rgreat_eq]
  cases hf : formedH x with
  | false => rfl
  | true =>
    have hw := formed_w hf
    have hu := hv (x.writer - 1).toNat (by omega)
    have e : decide (addU (v (x.writer - 1).toNat) 1 ≠ x.seq) = !decide (v (x.writer - 1).toNat = x.seq - 1) := by
      have hu1 := hu.1; have hu2 := hu.2
      by_cases h : v (x.writer - 1).toNat = 18446744073709551615
      · rw [h]
        have h0 : addU 18446744073709551615 1 = 0 := by decide
        rw [h0]
        simp; omega
      · rw [addU_small (by omega) (by omega)]
        apply Bool.eq_iff_iff.2
        rw [Bool.not_eq_true', decide_eq_true_eq, decide_eq_false_iff_not]
        omega
    rw [e]
    cases decide (v (x.writer - 1).toNat = x.seq - 1) <;> rfl

set_option maxHeartbeats 1000000 in
theorem ready_law (v : Vec) (hv : ∀ i, i < 6 → U64 (v i)) (x : Hd) (w : World) (hx : HdIn w x) (kx : HdOk x) : Calls Try.prog 9 #[.agg (encV v).toArray, .agg (encH x).toArray] w (Ret (.bool true) w) := by
  refine fn_calls (n := 21) Try.func9 rfl rfl (lb rfl) ?_
  refine cseq ?_
  refine creg ?_
  refine lbxa rfl (fun b1 => ?_)
  refine lbxa rfl (fun b2 => ?_)
  refine l1 (asgb rfl) ?_
  refine lnil ?_
  refine nthen ?_
  refine cseq ?_
  refine cregq mo (by kernel_rfl) ?_
  refine q1 (cl hb24 rfl mn (fun w hw => awake14_calls w)) ?_
  refine q1 (mvb rfl) ?_
  refine q1g rfl (gwt rfl) (fun h => fa fa37_7 rfl) ?_
  refine q1g rfl (gwt rfl) (fun h => ldc 1 Try.isAgg35 rfl (gvt h) rfl) ?_
  refine q1g rfl (gwt rfl) (fun h => lens sl35 rfl (gvt h)) ?_
  refine q1g rfl (gwt rfl) (fun h => gtr (gvt h) rfl) ?_
  refine q1g rfl (gwt rfl) (fun h => mvb (gvt h)) ?_
  refine q1g rfl (ggf rfl) (fun h => ldw 0 Try.isAgg24 Try.sizeOf24 rfl rfl rfl) ?_
  refine q1g rfl (ggf rfl) (fun h => ldw 1 Try.isAgg37 Try.sizeOf37 rfl rfl rfl) ?_
  refine q1g rfl (ggf rfl) (fun h => cl hb38 rfl (mc (gvt h) (mc (gvt h) mn)) (fun w hw => ready_calls _ _ w (Sl.keptS hx hw) kx)) ?_
  refine q1g rfl (ggf rfl) (fun h => ldw 0 Try.isAgg24 Try.sizeOf24 rfl rfl rfl) ?_
  refine q1g rfl (ggf rfl) (fun h => ldw 1 Try.isAgg37 Try.sizeOf37 rfl rfl rfl) ?_
  refine q1g rfl (ggf rfl) (fun h => cl hb39 rfl (mc (gvt h) (mc (gvt h) mn)) (fun w hw => rready_calls _ _ w (Sl.keptS hx hw) kx)) ?_
  refine q1g rfl (ggf rfl) (fun h => eqlb Try.underlying4 (gvt h) (gvt h)) ?_
  refine q1g rfl (gwt rfl) (fun h => pk_or (gvt h) rfl (gva h)) ?_
  refine q1 (pk_and rfl rfl rfl) ?_
  refine q1 (asgb rfl) ?_
  refine qnil ?_
  refine nthen ?_
  refine cret ?_
  exact fin1b rfl rfl (by rw [rready_eq v x hv kx]; simp)
end Go.Proofs.Ytkdbjhlkahkobaa
/- the order in which entries come: plain laws -/
namespace Go.Proofs.Ytkdbjhlkahkobaa
open Jal Go.RowKit
set_option maxRecDepth 100000
def minL (m : Hd) (l : List Hd) : Hd := l.foldl (fun m x => bif decide (firstH x m < 0) then x else m) m
def pick (hs : List Hd) (v : Vec) : Option Hd :=
  match hs.filter (readyH v) with
  | [] => none
  | h :: t => some (minL h t)
def putV (v : Vec) (h : Hd) : Vec := ui v (h.writer - 1).toNat h.seq
def core (h : Hd) : Hd := { h with tp := none, tc := 0 }
inductive Path (hs : List Hd) (v : Vec) : List Hd → Vec → Prop
  | nil : Path hs v [] v
  | snoc {O : List Hd} {v' : Vec} {h o : Hd} : Path hs v O v' → pick hs v' = some h → core o = core h → Path hs v (O ++ [o]) (putV v' h)
theorem or2_neg {a b : Int} : or2 a b < 0 ↔ a < 0 ∨ a = 0 ∧ b < 0 := by
  unfold or2
  simp only [cond_eq_ite, decide_eq_true_eq]
  by_cases ha : a = 0 <;> by_cases hb : b = 0 <;> simp [ha, hb] <;> omega
theorem cmpI_neg {a b : Int} : cmpI a b < 0 ↔ a < b := by
  unfold cmpI
  simp only [cond_eq_ite, decide_eq_true_eq]
  by_cases h1 : a < b <;> by_cases h2 : a > b <;> simp [h1, h2] <;> omega
theorem first_iff {a b : Hd} : firstH a b < 0 ↔ a.time < b.time ∨ a.time = b.time ∧ a.writer < b.writer := by
  unfold firstH
  rw [or2_neg, cmpI_neg, cmpI_zero, cmpI_neg]
theorem minL_mem : ∀ (l : List Hd) (m : Hd), minL m l ∈ m :: l
  | [], m => by simp [minL]
  | x :: l, m => by
    show minL (bif decide (firstH x m < 0) then x else m) l ∈ _
    have ih := minL_mem l (bif decide (firstH x m < 0) then x else m)
    rcases List.mem_cons.1 ih with h | h
    · rw [h]; cases decide (firstH x m < 0) <;> simp
    · simp [h]
theorem minL_min : ∀ (l : List Hd) (m : Hd), ∀ x ∈ m :: l, ¬ firstH x (minL m l) < 0
  | [], m, x, hx => by
    obtain rfl := List.mem_singleton.1 hx
    show ¬ firstH x x < 0
    rw [first_iff]; omega
  | y :: l, m, x, hx => by
    show ¬ firstH x (minL (bif decide (firstH y m < 0) then y else m) l) < 0
    have ih := minL_min l (bif decide (firstH y m < 0) then y else m)
    rcases List.mem_cons.1 hx with rfl | hx
    · have h0 := ih _ (List.mem_cons_self ..)
      rw [first_iff] at h0 ⊢
      by_cases hy : firstH y x < 0
      · rw [decide_eq_true hy] at h0 ⊢
        simp only [cond_true] at h0 ⊢
        rw [first_iff] at hy; omega
      · rw [decide_eq_false hy] at h0 ⊢
        exact h0
    · rcases List.mem_cons.1 hx with rfl | hx
      · have h0 := ih _ (List.mem_cons_self ..)
        rw [first_iff] at h0 ⊢
        by_cases hy : firstH x m < 0
        · rw [decide_eq_true hy] at h0 ⊢
          exact h0
        · rw [decide_eq_false hy] at h0 ⊢
          simp only [cond_false] at h0 ⊢
          rw [first_iff] at hy; omega
      · exact ih x (List.mem_cons_of_mem _ hx)
theorem pick_spec {hs : List Hd} {v : Vec} {h : Hd} (hp : pick hs v = some h) : h ∈ hs ∧ readyH v h = true ∧ ∀ x ∈ hs, readyH v x = true → ¬ firstH x h < 0 := by
  unfold pick at hp
  split at hp
  · cases hp
  · rename_i a t he
    cases hp
    have h1 : minL a t ∈ hs.filter (readyH v) := by rw [he]; exact minL_mem t a
    obtain ⟨h2, h3⟩ := List.mem_filter.1 h1
    refine ⟨h2, h3, fun x hx hr => minL_min t a x ?_⟩
    rw [← he]; exact List.mem_filter.2 ⟨hx, hr⟩
theorem pick_none {hs : List Hd} {v : Vec} : pick hs v = none ↔ hs.filter (readyH v) = [] := by
  unfold pick
  split <;> simp_all
theorem ready_formed {v : Vec} {h : Hd} (hr : readyH v h = true) : formedH h = true ∧ v (h.writer - 1).toNat = h.seq - 1 := by
  unfold readyH at hr
  simp only [Bool.and_eq_true, decide_eq_true_eq] at hr
  exact hr.1
theorem ready_core (v : Vec) (h : Hd) : readyH v (core h) = readyH v h := rfl
theorem ready_of_core {v : Vec} {o h : Hd} (hc : core o = core h) : readyH v o = readyH v h := by rw [← ready_core, hc, ready_core]
theorem put_of_core {v : Vec} {o h : Hd} (hc : core o = core h) : putV v o = putV v h := by
  have h1 : (core o).writer = (core h).writer := by rw [hc]
  have h2 : (core o).seq = (core h).seq := by rw [hc]
  have h1' : o.writer = h.writer := h1
  have h2' : o.seq = h.seq := h2
  unfold putV
  rw [h1', h2']

/-! ### it ends -/
def laterV (v : Vec) (h : Hd) : Bool := formedH h && decide (v (h.writer - 1).toNat < h.seq)
theorem countP_lt {p q : Hd → Bool} : ∀ {l : List Hd}, (∀ x ∈ l, p x = true → q x = true) → (∃ x ∈ l, q x = true ∧ p x = false) → l.countP p < l.countP q
  | [], _, h => by obtain ⟨x, hx, _⟩ := h; cases hx
  | a :: l, hpq, hx => by
    have hle : l.countP p ≤ l.countP q := List.countP_mono_left (fun x hx h => hpq x (List.mem_cons_of_mem _ hx) h)
    rw [List.countP_cons, List.countP_cons]
    obtain ⟨x, hx, h1, h2⟩ := hx
    rcases List.mem_cons.1 hx with rfl | hx
    · rw [h1, h2]; simp; omega
    · have ih := countP_lt (l := l) (fun x hx h => hpq x (List.mem_cons_of_mem _ hx) h) ⟨x, hx, h1, h2⟩
      have ha := hpq a (List.mem_cons_self ..)
      cases hp : p a with
      | false => simp; omega
      | true => rw [ha hp]; simp; omega
theorem putV_get (v : Vec) (h : Hd) (i : Nat) : putV v h i = bif Nat.beq i (h.writer - 1).toNat then h.seq else v i := rfl
theorem put_later {hs : List Hd} {v : Vec} {h : Hd} (hp : pick hs v = some h) : hs.countP (laterV (putV v h)) < hs.countP (laterV v) := by
  obtain ⟨hm, hr, _⟩ := pick_spec hp
  obtain ⟨hf, hv⟩ := ready_formed hr
  have hw := formed_w hf
  refine countP_lt (fun x _ hx => ?_) ⟨h, hm, ?_, ?_⟩
  · unfold laterV at hx ⊢
    simp only [Bool.and_eq_true, decide_eq_true_eq] at hx ⊢
    refine ⟨hx.1, ?_⟩
    have h1 := hx.2
    rw [putV_get] at h1
    cases hb : Nat.beq (x.writer - 1).toNat (h.writer - 1).toNat with
    | false => rw [hb] at h1; exact h1
    | true =>
      rw [hb] at h1
      simp only [cond_true] at h1
      rw [Nat.eq_of_beq_eq_true hb]; omega
  · unfold laterV
    rw [hf, Bool.true_and, decide_eq_true_eq]; omega
  · unfold laterV
    rw [putV_get, beq_yes]; simp
theorem path_len {hs : List Hd} {v0 v : Vec} {O : List Hd} (h : Path hs v0 O v) : O.length + hs.countP (laterV v) ≤ hs.length := by
  induction h with
  | nil => simpa using List.countP_le_length
  | snoc _ hp _ ih => have := put_later hp; rw [List.length_append]; simp only [List.length_cons, List.length_nil]; omega

/-! ### what came -/
def runV (v : Vec) (O : List Hd) : Vec := O.foldl putV v
theorem runV_snoc (v : Vec) (O : List Hd) (o : Hd) : runV v (O ++ [o]) = putV (runV v O) o := by simp [runV]
theorem path_end {hs : List Hd} {v0 v : Vec} {O : List Hd} (h : Path hs v0 O v) : v = runV v0 O := by
  induction h with
  | nil => rfl
  | snoc _ _ hc ih => rw [runV_snoc, ← ih, put_of_core hc]
theorem path_ready {hs : List Hd} {v0 v : Vec} {O : List Hd} (h : Path hs v0 O v) : ∀ i o, O[i]? = some o → readyH (runV v0 (O.take i)) o = true := by
  induction h with
  | nil => intro i o h; cases h
  | snoc hP hp hc ih =>
    rename_i O1 v' h1 o1
    intro i o hi
    rcases Nat.lt_or_ge i O1.length with hlt | hge
    · rw [List.getElem?_append_left hlt] at hi
      rw [List.take_append_of_le_length (by omega)]
      exact ih i o hi
    · have hi1 : i = O1.length := by
        have := (List.getElem?_eq_some_iff.1 hi).1
        simp at this; omega
      subst hi1
      simp at hi
      subst hi
      rw [List.take_left, ← path_end hP, ready_of_core hc]
      exact (pick_spec hp).2.1
theorem path_none {hs : List Hd} {v0 v : Vec} {O : List Hd} (h : Path hs v0 O v) (hn : pick hs v0 = none) : O = [] ∧ v = v0 := by
  induction h with
  | nil => exact ⟨rfl, rfl⟩
  | snoc hP hp hc ih =>
    obtain ⟨_, h2⟩ := ih
    subst h2
    rw [hn] at hp; cases hp
/-- two lists that pick alike -/
theorem path_same {hs hs' : List Hd} (hpk : ∀ v, pick hs v = pick hs' v) {v0 v : Vec} {O : List Hd} (h : Path hs v0 O v) : Path hs' v0 O v := by
  induction h with
  | nil => exact .nil
  | snoc _ hp hc ih => exact .snoc ih (by rw [← hpk]; exact hp) hc
theorem path_det_aux {hs : List Hd} {v0 : Vec} : ∀ (n : Nat) {v v' : Vec} {O O' : List Hd}, O.length = n → Path hs v0 O v → Path hs v0 O' v' → O.length ≤ O'.length →
    ∃ R, O'.length = O.length + R ∧ (∀ i o o', i < O.length → O[i]? = some o → O'[i]? = some o' → core o = core o') ∧ (R = 0 → v = v') ∧ (0 < R → pick hs v ≠ none) := by
  intro n v v' O O' hn h h'
  induction h' generalizing n v O with
  | nil =>
    intro hl
    have : O = [] := List.eq_nil_of_length_eq_zero (by simpa using hl)
    subst this
    refine ⟨0, by simp, fun i o o' hi => by simp at hi, fun _ => ?_, fun h => by omega⟩
    exact path_end h
  | snoc hP hp hc ih =>
    rename_i O1 v2 h1 o1
    intro hl
    rw [List.length_append] at hl
    simp only [List.length_cons, List.length_nil] at hl
    by_cases hle : O.length ≤ O1.length
    · obtain ⟨R, h2, h3, h4, h5⟩ := ih n hn h hle
      refine ⟨R + 1, by rw [List.length_append]; simp; omega, fun i o o' hi ho ho' => ?_, fun h => by omega, fun _ => ?_⟩
      · rw [List.getElem?_append_left (by omega)] at ho'
        exact h3 i o o' hi ho ho'
      · by_cases hR : R = 0
        · rw [h4 hR, hp]; simp
        · exact h5 (by omega)
    · have hlen : O.length = O1.length + 1 := by omega
      cases h with
      | nil => simp at hlen
      | snoc hQ hq hd =>
        rename_i O2 v3 h2 o2
        have hl2 : O2.length = O1.length := by simpa using hlen
        obtain ⟨R, k2, k3, k4, k5⟩ := ih O2.length rfl hQ (by omega)
        have hR : R = 0 := by omega
        have hv := k4 hR
        subst hv
        rw [hq] at hp
        cases hp
        refine ⟨0, by simp; omega, fun i o o' hi ho ho' => ?_, fun _ => rfl, fun h => by omega⟩
        rcases Nat.lt_or_ge i O2.length with hlt | hge
        · rw [List.getElem?_append_left hlt] at ho
          rw [List.getElem?_append_left (by omega)] at ho'
          exact k3 i o o' hlt ho ho'
        · have hi1 : i = O2.length := by simp at hi; omega
          subst hi1
          simp at ho
          rw [hl2] at ho'
          simp at ho'
          subst ho; subst ho'
          rw [hd, hc]
theorem path_det {hs : List Hd} {v0 v v' : Vec} {O O' : List Hd} (h : Path hs v0 O v) (h' : Path hs v0 O' v') (hn : pick hs v = none) (hn' : pick hs v' = none) :
    v = v' ∧ O.length = O'.length ∧ ∀ (i : Nat) (o o' : Hd), O[i]? = some o → O'[i]? = some o' → core o = core o' := by
  have key : ∀ {v v' : Vec} {O O' : List Hd}, Path hs v0 O v → Path hs v0 O' v' → pick hs v = none → O.length ≤ O'.length → v = v' ∧ O.length = O'.length ∧ ∀ (i : Nat) (o o' : Hd), O[i]? = some o → O'[i]? = some o' → core o = core o' := by
    intro v v' O O' h h' hn hl
    obtain ⟨R, h1, h2, h3, h4⟩ := path_det_aux O.length rfl h h' hl
    have hR : R = 0 := by
      rcases Nat.eq_zero_or_pos R with h | h
      · exact h
      · exact absurd hn (h4 h)
    exact ⟨h3 hR, by omega, fun i o o' ho ho' => h2 i o o' (List.getElem?_eq_some_iff.1 ho).1 ho ho'⟩
  rcases Nat.le_total O.length O'.length with hl | hl
  · exact key h h' hn hl
  · obtain ⟨h1, h2, h3⟩ := key h' h hn' hl
    exact ⟨h1.symm, h2.symm, fun i o o' ho ho' => (h3 i o' o ho' ho).symm⟩
end Go.Proofs.Ytkdbjhlkahkobaa
/- the order in which entries come: what the walk of it wants -/
namespace Go.Proofs.Ytkdbjhlkahkobaa
open Jal Go.RowKit
set_option maxRecDepth 100000
def hz : Hd := hdT 0
/-- the least of the first ones -/
def minT (L : List Hd) (i : Nat) : Hd := minL (L.getD 0 hz) ((L.drop 1).take i)
theorem minT_succ {L : List Hd} {i : Nat} (h : i + 1 < L.length) : minT L (i + 1) = bif decide (firstH (L.getD (i + 1) hz) (minT L i) < 0) then L.getD (i + 1) hz else minT L i := by
  unfold minT
  have h1 : (L.drop 1).take (i + 1) = (L.drop 1).take i ++ [L.getD (i + 1) hz] := by
    rw [List.take_add_one, List.getElem?_drop, Nat.add_comm 1 i, List.getElem?_eq_getElem h]
    simp [List.getD_eq_getElem?_getD, List.getElem?_eq_getElem h]
  rw [h1]
  unfold minL
  rw [List.foldl_append]; rfl
theorem minT_t {L : List Hd} {i : Nat} (h : i + 1 < L.length) (hd : decide (firstH (L.getD (i + 1) hz) (minT L i) < 0) = true) : minT L (i + 1) = L.getD (i + 1) hz := by rw [minT_succ h, hd]; rfl
theorem minT_f {L : List Hd} {i : Nat} (h : i + 1 < L.length) (hd : decide (firstH (L.getD (i + 1) hz) (minT L i) < 0) = false) : minT L (i + 1) = minT L i := by rw [minT_succ h, hd]; rfl
theorem minT_all {a : Hd} {t : List Hd} : minT (a :: t) ((a :: t).length - 1) = minL a t := by
  unfold minT
  simp
theorem pick_of {hs : List Hd} {v : Vec} {L : List Hd} (hL : hs.filter (readyH v) = L) (h0 : L ≠ []) : pick hs v = some (minT L (L.length - 1)) := by
  unfold pick
  rw [hL]
  cases L with
  | nil => exact absurd rfl h0
  | cons a t => rw [minT_all]
/-- those of the first ones that are ready -/
def rdyL (l : Nat → Hd) (v : Vec) (i : Nat) : List Hd := ((List.range i).map l).filter (readyH v)
theorem rdyL_t {l : Nat → Hd} {v : Vec} {i : Nat} (h : readyH v (l i) = true) : rdyL l v (i + 1) = rdyL l v i ++ [l i] := by
  unfold rdyL; rw [List.range_succ, List.map_append, List.filter_append]; simp [h]
theorem rdyL_f {l : Nat → Hd} {v : Vec} {i : Nat} (h : readyH v (l i) = false) : rdyL l v (i + 1) = rdyL l v i := by
  unfold rdyL; rw [List.range_succ, List.map_append, List.filter_append]; simp [h]
theorem rdyL_len (l : Nat → Hd) (v : Vec) (i : Nat) : (rdyL l v i).length ≤ i := by
  have h1 : (rdyL l v i).length ≤ ((List.range i).map l).length := List.length_filter_le _ _
  simpa using h1
theorem encV_set (v : Vec) (i : Nat) (x : Int) (h : i < 6) : (encV v).set (0 + i * 1) (.int .u64 x) = encV (ui v i x) := by
  rcases six h with rfl | rfl | rfl | rfl | rfl | rfl <;> rfl
theorem encH_setTok (h : Hd) (p : Option Addr) (c : Nat) : (encH h).set (0 + 53) (.slice p h.tn c) = encH { h with tp := p, tc := c } := rfl
theorem hdOk_retok {h : Hd} (k : HdOk h) (p : Option Addr) (c : Nat) : HdOk { h with tp := p, tc := c } :=
  ⟨k.w, k.s, k.e, k.t, k.n, k.k, k.z, k.tok, k.item, k.prev, k.sum, k.code⟩
theorem encH_one (h : Hd) : ∀ u ∈ encH h, u.oneCell' = true := oneA rfl
theorem bs54 (x : Hd) : ∀ w : World, (Instr.buildSlice 54 1 #[(0, .agg (encH x).toArray)]).run Try.prog w = .ok (.slice (some ⟨w.heap.size, 0, none⟩) 1 1) (w.alloc (.cells (encH x).toArray 37)) := fun w => by kernel_rfl
theorem el54 : ElT Try.prog 54 37 125 232 := by
  obtain ⟨i, h1, h2, h3, h4⟩ := info_parts (P := Try.prog) (e := 37) (z := .agg (encH hz).toArray) (size := 125) (bytes := 232) (by kernel_rfl)
  exact ⟨i, _, Try.underlying54, h1, h2, h3, h4, rfl, by decide⟩
theorem el35 : ElT Try.prog 35 34 16 16 := by
  obtain ⟨i, h1, h2, h3, h4⟩ := info_parts (P := Try.prog) (e := 34) (z := .agg (arr .u8 16 (fun _ => 0)).toArray) (size := 16) (bytes := 16) (by kernel_rfl)
  exact ⟨i, _, Try.underlying35, h1, h2, h3, h4, rfl, by decide⟩
structure OrdS where
  v : Vec
  O : List Hd
  ov : Value
  oe : List Ent
  tl : List Ent
def TokIn (H : List Ent) (o : Hd) : Prop := SlIn H o.tp o.tn 16 (fun i => arr .u8 16 (o.tok i))
structure OrdOk (hs : List Hd) (v0 : Vec) (s : OrdS) : Prop where
  path : Path hs v0 s.O s.v
  own : OwnL 37 125 s.ov s.O.length (s.O.flatMap encH) s.oe
  tok : ∀ o ∈ s.O, TokIn s.tl o ∧ HdOk o
def OrdR (hs : List Hd) (v0 : Vec) (r : Value) (Hn : List Ent) : Prop := ∃ s : OrdS, r = .tuple #[s.ov, .agg (encV s.v).toArray] ∧ Hn = s.oe ++ s.tl ∧ OrdOk hs v0 s ∧ pick hs s.v = none
theorem ordOk0 (hs : List Hd) (v0 : Vec) : OrdOk hs v0 ⟨v0, [], .slice none 0 0, [], []⟩ := ⟨.nil, OwnL.nil 37 125, fun o h => by cases h⟩
theorem OrdOk.next {hs : List Hd} {v0 : Vec} {s : OrdS} {h : Hd} {p : Option Addr} {c : Nat} {g cap : Nat} {oe' Hn : List Ent} (hO : OrdOk hs v0 s) (hp : pick hs s.v = some h) (hk : HdOk h)
    (hn : SlIn Hn p h.tn 16 (fun i => arr .u8 16 (h.tok i))) (hw : OwnL 37 125 (.slice (some ⟨g, 0, none⟩) (s.O.length + 1) cap) (s.O.length + 1) (s.O.flatMap encH ++ encH { h with tp := p, tc := c }) oe') :
    OrdOk hs v0 ⟨putV s.v h, s.O ++ [{ h with tp := p, tc := c }], .slice (some ⟨g, 0, none⟩) (s.O.length + 1) cap, oe', s.tl ++ Hn⟩ := by
  refine ⟨.snoc hO.path hp rfl, ?_, fun o ho => ?_⟩
  · simpa using hw
  · rcases List.mem_append.1 ho with ho | ho
    · obtain ⟨h1, h2⟩ := hO.tok o ho
      exact ⟨h1.mono (fun e he => List.mem_append_left _ he), h2⟩
    · obtain rfl := List.mem_singleton.1 ho
      exact ⟨hn.mono (fun e he => List.mem_append_right _ he), hdOk_retok hk p c⟩
end Go.Proofs.Ytkdbjhlkahkobaa
/- walks, printed by a program of ours -/
namespace Go.Proofs.Ytkdbjhlkahkobaa
open Jal Go.RowKit
set_option maxRecDepth 100000
theorem bs35 : ∀ w : World, (Instr.buildSlice 35 0 #[]).run Try.prog w = .ok (.slice (some ⟨w.heap.size, 0, none⟩) 0 0) (w.alloc (.cells [].toArray 34)) := fun w => by kernel_rfl

theorem mul16 {n : Nat} (h : n ≤ 20) : (0 + n) * 16 ≤ 140737488355328 := by omega

theorem clonep_calls (w : World) (p : Option Addr) (n c : Nat) (t : Nat → Nat → Int) (hn : n ≤ 20) (hl : Sl w p n 16 (fun i => arr .u8 16 (t i))) (hpos : 0 < n) : Calls Try.prog 82 #[.slice p n c] w (RetM (fun v Hn => ∃ p' c', v = .slice p' n c' ∧ SlIn Hn p' n 16 (fun i => arr .u8 16 (t i))) w) := by
  refine fn_calls (n := 8) Try.func82 rfl rfl (lb rfl) ?_
  obtain ⟨b, o, rfl, hbl, hm⟩ := hl.at hpos
  refine cseq ?_
  refine creg ?_
  refine l1 (asgs rfl) ?_
  refine lnil ?_
  refine nthen ?_
  refine cseq ?_
  refine cseq ?_
  refine creg ?_
  refine l1 (mvs rfl) ?_
  refine l1 (eqnil sl35 rfl rfl) ?_
  refine lnil ?_
  refine nthen ?_
  refine ciff rfl ?_
  refine cskip ?_
  refine nthen ?_
  refine cseq ?_
  refine creg ?_
  refine lbs Try.underlying35 rfl (bs35) (fun b1 => ?_)
  refine l1 (mvs rfl) ?_
  refine lapp [] [] [⟨b1, [], 34⟩] (xs := []) el35 rfl rfl ⟨rfl, .inr ⟨b1, 0, [], rfl, rfl, Nat.le_refl _, by decide, rfl, rfl⟩⟩ rfl (news := (List.range n).flatMap (fun i => arr .u8 16 (t i))) (by rw [flatM_len (sz := 16) (fun a => by simp [arr]), List.length_range]) (fun w' hw => (mem_flat (by decide) (fun i => by simp [arr]) (fun i hi => (hm i hi).kept hw.below hbl))) (fun u hu => by obtain ⟨i, _, hi⟩ := List.mem_flatMap.1 hu; exact oneA (vs := arr .u8 16 (t i)) (by simp [arr, List.all_map, Value.oneCell']) u hi) hpos (by unfold maxLen; omega) (by omega) ?_
  intro g cap oe hown0
  have hown : OwnL 34 16 (.slice (some ⟨g, 0, none⟩) n cap) n ((List.range n).flatMap (fun i => arr .u8 16 (t i))) oe := by simpa using hown0
  refine l1 (asgs rfl) ?_
  refine lnil ?_
  refine nthen ?_
  refine cret ?_
  exact finM (.slice (some ⟨g, 0, none⟩) (0 + n) cap) oe (rv1 rfl (rvt rfl)) ⟨oe, List.Perm.refl _, by simp⟩ ⟨some ⟨g, 0, none⟩, cap, by rw [Nat.zero_add], hown.slInL (fun a => by simp [arr]) (fun i hi => ⟨i, List.getElem?_range hi, rfl⟩)⟩

theorem clonen_calls (w : World) (c : Nat) (t : Nat → Nat → Int) : Calls Try.prog 82 #[.slice none 0 c] w (RetM (fun v Hn => ∃ p' c', v = .slice p' 0 c' ∧ SlIn Hn p' 0 16 (fun i => arr .u8 16 (t i))) w) := by
  refine fn_calls (n := 8) Try.func82 rfl rfl (lb rfl) ?_
  refine cseq ?_
  refine creg ?_
  refine l1 (asgs rfl) ?_
  refine lnil ?_
  refine nthen ?_
  refine cseq ?_
  refine cseq ?_
  refine creg ?_
  refine l1 (mvs rfl) ?_
  refine l1 (eqnil sl35 rfl rfl) ?_
  refine lnil ?_
  refine nthen ?_
  refine cift rfl ?_
  refine cseq ?_
  refine creg ?_
  refine l1 (asgs rfl) ?_
  refine lnil ?_
  refine nthen ?_
  refine cret ?_
  refine nthenR ?_
  exact finM _ [] (rv1 rfl (rvt rfl)) ⟨[], List.Perm.refl _, List.nil_sublist _⟩ ⟨none, 0, rfl, .inl rfl⟩

theorem clone0_calls (w : World) (a : Addr) (c : Nat) (t : Nat → Nat → Int) : Calls Try.prog 82 #[.slice (some a) 0 c] w (RetM (fun v Hn => ∃ p' c', v = .slice p' 0 c' ∧ SlIn Hn p' 0 16 (fun i => arr .u8 16 (t i))) w) := by
  refine fn_calls (n := 8) Try.func82 rfl rfl (lb rfl) ?_
  refine cseq ?_
  refine creg ?_
  refine l1 (asgs rfl) ?_
  refine lnil ?_
  refine nthen ?_
  refine cseq ?_
  refine cseq ?_
  refine creg ?_
  refine l1 (mvs rfl) ?_
  refine l1 (eqnil sl35 rfl rfl) ?_
  refine lnil ?_
  refine nthen ?_
  refine ciff rfl ?_
  refine cskip ?_
  refine nthen ?_
  refine cseq ?_
  refine creg ?_
  refine lbs Try.underlying35 rfl (bs35) (fun b1 => ?_)
  refine l1 (mvs rfl) ?_
  refine l1 (lapp0 el35 rfl (Nat.le_refl _) rfl) ?_
  refine l1 (asgs rfl) ?_
  refine lnil ?_
  refine nthen ?_
  refine cret ?_
  exact finM _ [] (rv1 rfl (rvt rfl)) ⟨[], List.Perm.refl _, List.nil_sublist _⟩ ⟨_, _, rfl, .inl rfl⟩

theorem clone_calls (w : World) (p : Option Addr) (n c : Nat) (t : Nat → Nat → Int) (hn : n ≤ 20) (hl : Sl w p n 16 (fun i => arr .u8 16 (t i))) : Calls Try.prog 82 #[.slice p n c] w (RetM (fun v Hn => ∃ p' c', v = .slice p' n c' ∧ SlIn Hn p' n 16 (fun i => arr .u8 16 (t i))) w) := by
  rcases Nat.eq_zero_or_pos n with h | h
  · subst h
    cases p with
    | none => exact clonen_calls w c t
    | some a => exact clone0_calls w a c t
  · exact clonep_calls w p n c t hn hl h

set_option maxHeartbeats 1000000 in
theorem minf_calls (w : World) (p : Option Addr) (c : Nat) (L : List Hd) (hn : (L.length : Int) ≤ 9223372036854775807) (h0 : 0 < L.length) (hl : Sl w p L.length 125 (fun i => encH (L.getD i hz))) : Calls Try.prog 80 #[.slice p L.length c, .func (.func 81) #[] #[]] w (Ret (.agg (encH (minT L (L.length - 1))).toArray) w) := by
  refine fn_calls (n := 33) Try.func80 rfl rfl (lb rfl) ?_
  obtain ⟨b, o, rfl, hbl, hm⟩ := hl.at h0
  refine cseq ?_
  refine creg ?_
  refine lal (zs := encH hz) Try.zeroValue37 rfl (fun b1 => ?_)
  refine lnil ?_
  refine nthen ?_
  refine cseq ?_
  refine cseq ?_
  refine creg ?_
  refine l1 (mvs rfl) ?_
  refine l1 (lens sl54 rfl rfl) ?_
  refine l1 (lss rfl rfl) ?_
  refine lnil ?_
  refine nthen ?_
  refine ciff (bf rfl (decide_eq_false (by omega))) ?_
  refine cskip ?_
  refine nthen ?_
  refine cseq ?_
  refine creg ?_
  refine l1 (mvs rfl) ?_
  refine l1 (isp sl54 rfl rfl rfl (by omega) (by omega)) ?_
  refine l1 (ldam (vs := encH (L.getD (0) hz)) Try.isAgg37 Try.sizeOf37 rfl rfl (fun w' hw => by rw [show ((0 : Int)).toNat = (0) from by omega]; exact (hm (0) (by omega)).kept hw.below hbl)) ?_
  refine lal (zs := encH hz) Try.zeroValue37 rfl (fun b2 => ?_)
  refine lstw (cs := encH (minT L 0)) 1 rfl rfl rfl Try.sizeOf37 rfl rfl rfl ?_
  refine lnil ?_
  refine nthen ?_
  refine cseq ?_
  refine cseq ?_
  refine creg ?_
  refine l1 (asgi rfl) ?_
  refine lnil ?_
  refine nthen ?_
  refine cblock ?_
  refine cloopI (σ := Nat) (fun s => [(0, .slice (some ⟨b, o, none⟩) L.length c), (1, .func (.func 81) #[] #[]), (4, .pointer (some ⟨b1, 0, none⟩)), (5, .pointer (some ⟨b2, 0, none⟩)), (6, .int .i64 ((s : Int) + 1))]) (fun s => [⟨b1, encH hz, 37⟩, ⟨b2, encH (minT L s), 37⟩]) (fun s => s < L.length) (fun s => L.length - s) 0 (by omega) ⟨rfl, rfl, rfl, rfl, rfl, trivial⟩ (List.Sublist.refl _) ?_
  rintro i j hi
  show WC _ _ _ ([⟨b1, encH hz, 37⟩, ⟨b2, encH (minT L i), 37⟩]) _ _ (over j [(0, .slice (some ⟨b, o, none⟩) L.length c), (1, .func (.func 81) #[] #[]), (4, .pointer (some ⟨b1, 0, none⟩)), (5, .pointer (some ⟨b2, 0, none⟩)), (6, .int .i64 ((i : Int) + 1))])
  replace hi : i < L.length := hi
  refine cseq ?_
  refine cseq ?_
  refine creg ?_
  refine l1 (mvi rfl) ?_
  refine l1 (mvs rfl) ?_
  refine l1 (lens sl54 rfl rfl) ?_
  refine l1 (lss rfl rfl) ?_
  refine lnil ?_
  refine nthen ?_
  refine cif rfl (fun h1 => ?_) (fun h1 => ?_)
  · have hlt : i + 1 < L.length := by (have := dt h1; omega)
    refine cskip ?_
    refine nthen ?_
    refine cseq ?_
    refine cblock ?_
    refine cseq ?_
    refine cregq mo (by kernel_rfl) ?_
    refine q1 (mvf rfl) ?_
    refine q1 (mvs rfl) ?_
    refine q1 (mvi rfl) ?_
    refine q1 (isp sl54 rfl rfl rfl (by omega) (by omega)) ?_
    refine q1 (ldam (vs := encH (L.getD (i + 1) hz)) Try.isAgg37 Try.sizeOf37 rfl rfl (fun w' hw => by rw [show ((i : Int) + 1).toNat = (i + 1) from by omega]; exact (hm (i + 1) (by omega)).kept hw.below hbl)) ?_
    refine q1 (ldw 1 Try.isAgg37 Try.sizeOf37 rfl rfl rfl) ?_
    refine q1 (cl hb81 rfl (mc rfl (mc rfl mn)) (fun w hw => first_calls _ _ w)) ?_
    refine q1 (lss rfl rfl) ?_
    refine qnil ?_
    refine nthen ?_
    refine cif rfl (fun h2 => ?_) (fun h2 => ?_)
    · skip
      refine creg ?_
      refine l1 (mvs rfl) ?_
      refine l1 (mvi rfl) ?_
      refine l1 (isp sl54 rfl rfl rfl (by omega) (by omega)) ?_
      refine l1 (ldam (vs := encH (L.getD (i + 1) hz)) Try.isAgg37 Try.sizeOf37 rfl rfl (fun w' hw => by rw [show ((i : Int) + 1).toNat = (i + 1) from by omega]; exact (hm (i + 1) (by omega)).kept hw.below hbl)) ?_
      refine lstw 1 rfl rfl rfl Try.sizeOf37 rfl rfl rfl ?_
      refine lnil ?_
      refine nblkN ?_
      refine nthen ?_
      refine creg ?_
      refine l1 (mvi rfl) ?_
      first | refine l1 (addn rfl rfl (ri (by omega) (by omega))) ?_ | refine l1 (add rfl rfl) ?_
      refine l1 (asgi rfl) ?_
      refine lnil ?_
      first | exact nI (i + 1) (by show i + 1 < L.length; omega) (by show L.length - (i + 1) < L.length - i; omega) ⟨rfl, rfl, rfl, rfl, rfl, trivial⟩ (by rw [minT_t hlt h2]; exact List.Sublist.refl _) | exact nI (i + 1) (by show i + 1 < L.length; omega) (by show L.length - (i + 1) < L.length - i; omega) ⟨rfl, rfl, rfl, rfl, rfl, trivial⟩ (by rw [minT_f hlt h2]; exact List.Sublist.refl _)
    · skip
      refine cskip ?_
      refine nblkN ?_
      refine nthen ?_
      refine creg ?_
      refine l1 (mvi rfl) ?_
      first | refine l1 (addn rfl rfl (ri (by omega) (by omega))) ?_ | refine l1 (add rfl rfl) ?_
      refine l1 (asgi rfl) ?_
      refine lnil ?_
      first | exact nI (i + 1) (by show i + 1 < L.length; omega) (by show L.length - (i + 1) < L.length - i; omega) ⟨rfl, rfl, rfl, rfl, rfl, trivial⟩ (by rw [minT_t hlt h2]; exact List.Sublist.refl _) | exact nI (i + 1) (by show i + 1 < L.length; omega) (by show L.length - (i + 1) < L.length - i; omega) ⟨rfl, rfl, rfl, rfl, rfl, trivial⟩ (by rw [minT_f hlt h2]; exact List.Sublist.refl _)
  · have hall : i = L.length - 1 := by (have := df h1; omega)
    subst hall
    refine cexit ?_
    refine nthenE ?_
    refine nIE ?_
    refine nblkE ?_
    refine nthen ?_
    refine cseq ?_
    refine creg ?_
    refine l1 (ldw 1 Try.isAgg37 Try.sizeOf37 rfl rfl rfl) ?_
    refine lstw 0 rfl rfl rfl Try.sizeOf37 rfl rfl rfl ?_
    refine lnil ?_
    refine nthen ?_
    refine cret ?_
    exact finc 0 rfl Try.isAgg37 Try.sizeOf37 rfl rfl rfl rfl

theorem rdy_all (l : Nat → Hd) (v : Vec) (n : Nat) : ((List.range n).map l).filter (readyH v) = rdyL l v n := rfl
theorem formed_tn {h : Hd} (hf : formedH h = true) : h.tn ≤ 8 := by
  unfold formedH at hf
  cases hp : placedB h with
  | false => rw [hp] at hf; simp at hf
  | true =>
    rw [hp] at hf
    by_cases ht : (h.tn : Int) > 8
    · rw [decide_eq_true ht] at hf; simp at hf
    · omega

set_option maxHeartbeats 1000000 in
theorem order_calls (w : World) (v : Vec) (p : Option Addr) (n c : Nat) (l : Nat → Hd) (hn : n ≤ 40) (hl : Sl w p n 125 (fun i => encH (l i))) (hx : ∀ i, i < n → HdIn w (l i)) (kx : ∀ i, i < n → HdOk (l i)) : Calls Try.prog 45 #[.agg (encV v).toArray, .slice p n c] w (RetM (OrdR ((List.range n).map l) v) w) := by
  refine fn_calls (n := 46) Try.func45 rfl rfl (lb rfl) ?_
  refine cseq ?_
  refine creg ?_
  refine lbxa rfl (fun b1 => ?_)
  refine l1 (asg rfl) ?_
  refine lal (zs := encV (fun _ => 0)) Try.zeroValue24 rfl (fun b2 => ?_)
  refine lnil ?_
  refine nthen ?_
  refine cseq ?_
  refine creg ?_
  refine l1 (asg rfl) ?_
  refine lnil ?_
  refine nthen ?_
  refine cblock ?_
  refine cloopI (σ := OrdS) (fun s => [(1, .slice p n c), (2, .pointer (some ⟨b1, 0, none⟩)), (5, .pointer (some ⟨b2, 0, none⟩)), (6, s.ov)]) (fun s => ([⟨b1, encV s.v, 24⟩, ⟨b2, encV (fun _ => 0), 24⟩] ++ (s.oe ++ s.tl))) (fun s => OrdOk ((List.range n).map l) v s) (fun s => ((List.range n).map l).countP (laterV s.v)) ⟨v, [], .slice none 0 0, [], []⟩ (ordOk0 _ v) ⟨rfl, rfl, rfl, rfl, trivial⟩ (List.Sublist.refl _) ?_
  rintro S j hS
  show WC _ _ _ (⟨b1, encV S.v, 24⟩ :: ⟨b2, encV (fun _ => 0), 24⟩ :: (S.oe ++ S.tl)) _ _ (over j [(1, .slice p n c), (2, .pointer (some ⟨b1, 0, none⟩)), (5, .pointer (some ⟨b2, 0, none⟩)), (6, S.ov)])
  replace hS : OrdOk ((List.range n).map l) v S := hS
  refine cblock ?_
  refine cseq ?_
  refine creg ?_
  refine l1 (asgs rfl) ?_
  refine lnil ?_
  refine nthen ?_
  refine cseq ?_
  refine cseq ?_
  refine creg ?_
  refine l1 (mvs rfl) ?_
  refine l1 (lens sl54 rfl rfl) ?_
  refine l1 (mvi rfl) ?_
  refine lnil ?_
  refine nthen ?_
  refine cblock ?_
  refine cloopI (σ := Nat × Value × List Ent) (fun s => [(1, .slice p n c), (2, .pointer (some ⟨b1, 0, none⟩)), (5, .pointer (some ⟨b2, 0, none⟩)), (6, S.ov), (7, s.2.1), (11, .slice p n c), (12, .int .i64 (n : Int)), (13, .int .i64 (s.1 : Int))]) (fun s => ([⟨b1, encV S.v, 24⟩, ⟨b2, encV (fun _ => 0), 24⟩] ++ (s.2.2 ++ (S.oe ++ S.tl)))) (fun s => s.1 ≤ n ∧ OwnL 37 125 s.2.1 (rdyL l S.v s.1).length ((rdyL l S.v s.1).flatMap encH) s.2.2) (fun s => n - s.1) (0, .slice none 0 0, []) ⟨Nat.zero_le _, OwnL.nil 37 125⟩ ⟨rfl, rfl, rfl, rfl, rfl, rfl, rfl, rfl, trivial⟩ (List.Sublist.refl _) ?_
  rintro ⟨i, rv, re⟩ j ⟨hi, hown⟩; replace hi : i ≤ n := hi; replace hown : OwnL 37 125 rv (rdyL l S.v i).length ((rdyL l S.v i).flatMap encH) re := hown; obtain ⟨rp, rc, rfl⟩ := hown.form
  show WC _ _ _ (⟨b1, encV S.v, 24⟩ :: ⟨b2, encV (fun _ => 0), 24⟩ :: (re ++ (S.oe ++ S.tl))) _ _ (over j [(1, .slice p n c), (2, .pointer (some ⟨b1, 0, none⟩)), (5, .pointer (some ⟨b2, 0, none⟩)), (6, S.ov), (7, .slice rp (rdyL l S.v i).length rc), (11, .slice p n c), (12, .int .i64 (n : Int)), (13, .int .i64 (i : Int))])
  skip
  refine cseq ?_
  refine creg ?_
  refine l1 (lss rfl rfl) ?_
  refine lnil ?_
  refine nthen ?_
  refine cseq ?_
  refine cif rfl (fun h1 => ?_) (fun h1 => ?_)
  · have hlt : i < n := by (have := dt h1; omega)
    obtain ⟨b, o, hp, hbl, hm⟩ := hl.at hlt
    refine cskip ?_
    refine nthen ?_
    refine cseq ?_
    refine cblock ?_
    refine cseq ?_
    refine creg ?_
    refine l1 (isp sl54 hp rfl rfl (by omega) (by omega)) ?_
    refine l1 (ldam (vs := encH (l i)) Try.isAgg37 Try.sizeOf37 rfl rfl (fun w' hw => (hm i hlt).kept hw.below hbl)) ?_
    refine lal (zs := encH hz) Try.zeroValue37 rfl (fun b3 => ?_)
    refine wl_perm (ins_perm 2 _ _) ?_
    refine lstw 2 rfl rfl rfl Try.sizeOf37 rfl rfl rfl ?_
    refine lnil ?_
    refine nthen ?_
    refine cseq ?_
    refine creg ?_
    refine l1 (ldw 0 Try.isAgg24 Try.sizeOf24 rfl rfl rfl) ?_
    refine l1 (ldw 2 Try.isAgg37 Try.sizeOf37 rfl rfl rfl) ?_
    refine l1 (cl hb38 rfl (mc rfl (mc rfl mn)) (fun w hw => ready_calls _ _ w (Sl.keptS (hx i hlt) hw) (kx i hlt))) ?_
    refine lnil ?_
    refine nthen ?_
    refine cif rfl (fun h2 => ?_) (fun h2 => ?_)
    · skip
      refine creg ?_
      refine l1 (mvs rfl) ?_
      refine l1 (ldw 2 Try.isAgg37 Try.sizeOf37 rfl rfl rfl) ?_
      refine lbs Try.underlying54 rfl (bs54 _) (fun b4 => ?_)
      refine wl_perm (ins_perm 3 _ _) ?_
      refine lapp [_, _, _, _] (S.oe ++ S.tl) re el54 rfl rfl hown rfl (news := encH (l i)) rfl (fun w' hw => by have := hw.mem (i := 3) rfl 0; simpa using this) (encH_one _) (by decide) (by have := rdyL_len l S.v i; unfold maxLen; omega) (by have := rdyL_len l S.v i; omega) ?_
      intro g cap re' hown1
      refine l1 (asgs rfl) ?_
      refine lnil ?_
      refine nblkN ?_
      refine nthen ?_
      refine creg ?_
      first | refine l1 (addn rfl rfl (ri (by omega) (by omega))) ?_ | refine l1 (add rfl rfl) ?_
      refine l1 (mvi rfl) ?_
      refine lnil ?_
      first | exact nI (i + 1, .slice (some ⟨g, 0, none⟩) ((rdyL l S.v i).length + 1) cap, re') ⟨by omega, by rw [rdyL_t h2, List.length_append, List.flatMap_append]; simpa using hown1⟩ (by show n - (i + 1) < n - i; omega) ⟨rfl, rfl, rfl, rfl, rfl, rfl, rfl, rfl, trivial⟩ (List.Sublist.cons_cons _ (List.Sublist.cons_cons _ (List.Sublist.cons _ (List.Sublist.cons _ (List.Sublist.refl _))))) | exact nI (i + 1, .slice rp (rdyL l S.v i).length rc, re) ⟨by omega, by rw [rdyL_f h2]; exact hown⟩ (by show n - (i + 1) < n - i; omega) ⟨rfl, rfl, rfl, rfl, rfl, rfl, rfl, rfl, trivial⟩ (List.Sublist.cons_cons _ (List.Sublist.cons_cons _ (List.Sublist.cons _ (List.Sublist.refl _))))
    · skip
      refine cskip ?_
      refine nblkN ?_
      refine nthen ?_
      refine creg ?_
      first | refine l1 (addn rfl rfl (ri (by omega) (by omega))) ?_ | refine l1 (add rfl rfl) ?_
      refine l1 (mvi rfl) ?_
      refine lnil ?_
      first | exact nI (i + 1, .slice (some ⟨g, 0, none⟩) ((rdyL l S.v i).length + 1) cap, re') ⟨by omega, by rw [rdyL_t h2, List.length_append, List.flatMap_append]; simpa using hown1⟩ (by show n - (i + 1) < n - i; omega) ⟨rfl, rfl, rfl, rfl, rfl, rfl, rfl, rfl, trivial⟩ (List.Sublist.cons_cons _ (List.Sublist.cons_cons _ (List.Sublist.cons _ (List.Sublist.cons _ (List.Sublist.refl _))))) | exact nI (i + 1, .slice rp (rdyL l S.v i).length rc, re) ⟨by omega, by rw [rdyL_f h2]; exact hown⟩ (by show n - (i + 1) < n - i; omega) ⟨rfl, rfl, rfl, rfl, rfl, rfl, rfl, rfl, trivial⟩ (List.Sublist.cons_cons _ (List.Sublist.cons_cons _ (List.Sublist.cons _ (List.Sublist.refl _))))
  · have hall : n = i := by (have := df h1; omega)
    refine cexit ?_
    refine nthenE ?_
    refine nIE ?_
    refine nblkE ?_
    refine nthen ?_
    refine cseq ?_
    refine cseq ?_
    refine creg ?_
    refine l1 (mvs rfl) ?_
    refine l1 (lens sl54 rfl rfl) ?_
    refine l1 (eql rfl rfl) ?_
    refine lnil ?_
    refine nthen ?_
    refine cif rfl (fun h3 => ?_) (fun h3 => ?_)
    · have hL0 : rdyL l S.v n = [] := by (subst hall; exact List.eq_nil_of_length_eq_zero (by have := dt h3; omega))
      have hno : pick ((List.range n).map l) S.v = none := pick_none.2 hL0
      refine cseq ?_
      refine cregT 3 mo (by kernel_rfl) ?_
      refine q1 (mv rfl) ?_
      refine q1 (ldw 0 Try.isAgg24 Try.sizeOf24 rfl rfl rfl) ?_
      refine q1 (asg rfl) ?_
      refine qtail ?_
      refine lstw 1 rfl rfl rfl Try.sizeOf24 rfl rfl rfl ?_
      refine lnil ?_
      refine nthen ?_
      refine cret ?_
      refine nthenR ?_
      refine nblkR ?_
      refine nIR ?_
      refine nblkR ?_
      exact finM _ (S.oe ++ S.tl) (rv2 rfl (rvt rfl) (rvc 1 Try.isAgg24 Try.sizeOf24 rfl rfl rfl rfl)) ⟨_, List.Perm.refl _, List.Sublist.cons _ (List.Sublist.cons _ (List.sublist_append_right _ _))⟩ ⟨S, rfl, rfl, hS, hno⟩
    · have hne : rdyL l S.v n ≠ [] := by (subst hall; intro he; have := df h3; rw [he] at this; exact this rfl)
      have hpk := pick_of (L := rdyL l S.v n) (hs := ((List.range n).map l)) (v := S.v) rfl hne
      have hLl := rdyL_len l S.v n
      obtain ⟨hmem, hrd, _⟩ := pick_spec hpk
      obtain ⟨q, hq, hqe⟩ := List.mem_map.1 hmem
      have hqn := List.mem_range.1 hq
      have hHx : HdIn w (minT (rdyL l S.v n) ((rdyL l S.v n).length - 1)) := by (have := hx q hqn; rw [hqe] at this; exact this)
      have hHk : HdOk (minT (rdyL l S.v n) ((rdyL l S.v n).length - 1)) := by (have := kx q hqn; rw [hqe] at this; exact this)
      have hw6 := formed_w (ready_formed hrd).1
      have hH20 : (minT (rdyL l S.v n) ((rdyL l S.v n).length - 1)).tn ≤ 20 := Nat.le_trans (formed_tn (ready_formed hrd).1) (by decide)
      rw [← hall] at hown
      have hown' := hown
      rw [← hall]
      have hpos : 0 < (rdyL l S.v n).length := List.length_pos_iff.2 hne
      obtain ⟨H, hHe⟩ : ∃ H, H = minT (rdyL l S.v n) ((rdyL l S.v n).length - 1) := ⟨_, rfl⟩
      rw [← hHe] at hpk hHx hHk hw6 hH20
      refine cskip ?_
      refine nthen ?_
      refine cseq ?_
      refine creg ?_
      refine l1 (mvs rfl) ?_
      refine l1 (cl (v := .agg (encH H).toArray) hb80 rfl (mc rfl (mc rfl mn)) (fun w' hw => by rw [hHe]; exact minf_calls w' _ _ _ (by omega) hpos (SlIn.sl (hown.slInL (fun a => rfl) (fun i hi => ⟨_, List.getElem?_eq_getElem hi, by rw [List.getD_eq_getElem?_getD, List.getElem?_eq_getElem hi]; rfl⟩)) (hw.sub (List.Sublist.cons _ (List.Sublist.cons _ (List.sublist_append_left _ _))))))) ?_
      refine lal (zs := encH hz) Try.zeroValue37 rfl (fun b5 => ?_)
      refine wl_perm (ins_perm 2 _ _) ?_
      refine lstw 2 rfl rfl rfl Try.sizeOf37 rfl rfl rfl ?_
      refine lnil ?_
      refine nthen ?_
      refine cseq ?_
      refine creg ?_
      refine l1 (fa fa37_7 rfl) ?_
      refine l1 (ldc 2 Try.isAgg35 rfl rfl rfl) ?_
      refine wl_sub (List.Sublist.cons_cons _ (List.Sublist.cons_cons _ (List.Sublist.cons_cons _ (List.sublist_append_right _ _)))) ?_
      refine lclm hb82 rfl (mc rfl mn) (fun w' hw => clone_calls w' _ _ _ _ hH20 (Sl.keptS hHx hw)) ?_
      rintro v34 Hn ⟨p', c', rfl, htk⟩
      refine wl_tail 3 ?_
      refine l1 (fa fa37_7 rfl) ?_
      refine lsts 2 rfl rfl rfl Try.sizeOf35 (lb rfl) (encH_setTok H p' c') ?_
      refine lnil ?_
      refine nthen ?_
      refine cseq ?_
      refine creg ?_
      refine l1 (mv rfl) ?_
      refine l1 (ldw 2 Try.isAgg37 Try.sizeOf37 rfl rfl rfl) ?_
      refine lbs Try.underlying54 rfl (bs54 _) (fun b6 => ?_)
      refine wl_perm (ins_perm 3 _ _) ?_
      refine lapp2 [_, _, _, _] S.tl Hn S.oe el54 rfl rfl hS.own rfl (news := encH { H with tp := p', tc := c' }) rfl (fun w' hw => by have := hw.mem (i := 3) rfl 0; simpa using this) (encH_one _) (by decide) (by have := path_len hS.path; rw [List.length_map, List.length_range] at this; unfold maxLen; omega) (by have := path_len hS.path; rw [List.length_map, List.length_range] at this; omega) ?_
      intro go co oe' hown2
      refine l1 (asg rfl) ?_
      refine lnil ?_
      refine nthen ?_
      refine creg ?_
      refine l1 (fa fa37_0 rfl) ?_
      refine l1 (ldc (v := .int .i64 H.writer) 2 Try.isAgg3 rfl rfl rfl) ?_
      refine l1 (subn rfl rfl (ri (by omega) (by omega))) ?_
      refine l1 (fa fa37_1 rfl) ?_
      refine l1 (ldc (v := .int .u64 H.seq) 2 Try.isAgg22 rfl rfl rfl) ?_
      refine l1 (ia ar24 rfl rfl (by omega) (by omega)) ?_
      refine lsti 0 rfl rfl rfl Try.sizeOf22 (by rw [show (encV S.v).length = 6 from rfl]; omega) (encV_set _ _ _ (by omega)) ?_
      refine lnil ?_
      refine nblkN ?_
      exact nI ⟨putV S.v H, S.O ++ [{ H with tp := p', tc := c' }], .slice (some ⟨go, 0, none⟩) (S.O.length + 1) co, oe', S.tl ++ Hn⟩ (OrdOk.next hS hpk hHk htk hown2) (put_later hpk) ⟨rfl, rfl, rfl, rfl, trivial⟩ (List.Sublist.cons_cons _ (List.Sublist.cons_cons _ (List.Sublist.cons _ (List.Sublist.cons _ (List.Sublist.refl _)))))
end Go.Proofs.Ytkdbjhlkahkobaa
/- walks, printed by a program of ours -/
namespace Go.Proofs.Ytkdbjhlkahkobaa
open Jal Go.RowKit
set_option maxRecDepth 100000
def fewT (l : Nat → Hd) (n : Nat) : Bool := (List.range (min n 100)).all fun i => !decide (((l i).tn : Int) > 20)
def fewB (l : Nat → Hd) (n : Nat) (k : Int) : Bool := fewT l n && decide ((n : Int) ≤ k)
theorem fewT_no {l : Nat → Hd} {n i : Nat} (hi : i < n) (h1 : i < 100) (h : ((l i).tn : Int) > 20) : fewT l n = false := by
  cases hf : fewT l n with
  | false => rfl
  | true =>
    unfold fewT at hf
    have := List.all_eq_true.1 hf i (List.mem_range.2 (by omega))
    simp at this; omega
theorem fewT_yes {l : Nat → Hd} {n : Nat} (h : ∀ i, i < n → i < 100 → ¬ ((l i).tn : Int) > 20) : fewT l n = true := by
  unfold fewT
  refine List.all_eq_true.2 fun i hi => ?_
  have := List.mem_range.1 hi
  have h1 := h i (by omega) (by omega)
  simp; omega

theorem few_calls (w : World) (p : Option Addr) (n c : Nat) (l : Nat → Hd) (k : Int) (hn : (n : Int) ≤ 9223372036854775807) (hl : Sl w p n 125 (fun i => encH (l i))) : Calls Try.prog 44 #[.slice p n c, .int .i64 k] w (Ret (.bool (fewB l n k)) w) := by
  refine fn_calls (n := 27) Try.func44 rfl rfl (lb rfl) ?_
  refine cseq ?_
  refine creg ?_
  refine l1 (asgb rfl) ?_
  refine lnil ?_
  refine nthen ?_
  refine cseq ?_
  refine cseq ?_
  refine creg ?_
  refine l1 (asgi rfl) ?_
  refine lnil ?_
  refine nthen ?_
  refine cblock ?_
  refine cloopI (σ := Nat) (fun s => [(0, .slice p n c), (1, .int .i64 k), (5, .int .i64 (s : Int))]) (fun s => []) (fun s => s ≤ n ∧ s ≤ 100 ∧ ∀ j, j < s → ¬ ((l j).tn : Int) > 20) (fun s => n + 1 - s) 0 ⟨Nat.zero_le _, by omega, fun j hj => by omega⟩ ⟨rfl, rfl, rfl, trivial⟩ (List.Sublist.refl _) ?_
  rintro i j hI
  show WC _ _ _ ([]) _ _ (over j [(0, .slice p n c), (1, .int .i64 k), (5, .int .i64 (i : Int))])
  replace hI : i ≤ n ∧ i ≤ 100 ∧ ∀ j, j < i → ¬ ((l j).tn : Int) > 20 := hI
  refine cseq ?_
  refine cseq ?_
  refine creg ?_
  refine l1 (mvi rfl) ?_
  refine l1 (mvs rfl) ?_
  refine l1 (lens sl54 rfl rfl) ?_
  refine l1 (lss rfl rfl) ?_
  refine l1 (mvb rfl) ?_
  refine l1g rfl (gwt rfl) (fun h => mvi rfl) ?_
  refine l1g rfl (gwt rfl) (fun h => lss (gvt h) rfl) ?_
  refine l1 (pk_and rfl rfl rfl) ?_
  refine lnil ?_
  refine nthen ?_
  refine cif rfl (fun h1 => ?_) (fun h1 => ?_)
  · have hlt : i < n ∧ i < 100 := by (simp at h1; omega)
    obtain ⟨b, o, hp, hbl, hm⟩ := hl.at hlt.1
    refine cskip ?_
    refine nthen ?_
    refine cseq ?_
    refine cblock ?_
    refine cseq ?_
    refine creg ?_
    refine l1 (mvs rfl) ?_
    refine l1 (mvi rfl) ?_
    refine l1 (isp sl54 hp rfl rfl (by omega) (by omega)) ?_
    refine l1 (fa fa37_7 rfl) ?_
    refine l1 (ldm (v := .slice (l i).tp (l i).tn (l i).tc) Try.isAgg35 rfl (fun w' hw => ((hm i hlt.1).kept hw.below hbl).at (encH_tokens _))) ?_
    refine l1 (lens sl35 rfl rfl) ?_
    refine l1 (gtr rfl rfl) ?_
    refine lnil ?_
    refine nthen ?_
    refine cif rfl (fun h2 => ?_) (fun h2 => ?_)
    · skip
      refine cseq ?_
      refine creg ?_
      refine l1 (asgb rfl) ?_
      refine lnil ?_
      refine nthen ?_
      refine cret ?_
      refine nblkR ?_
      refine nthenR ?_
      refine nIR ?_
      refine nblkR ?_
      refine nthenR ?_
      exact fin1b rfl rfl (by rw [fewB, fewT_no (by omega) (by omega) (dt h2)]; rfl)
    · skip
      refine cskip ?_
      refine nblkN ?_
      refine nthen ?_
      refine creg ?_
      refine l1 (mvi rfl) ?_
      first | refine l1 (addn rfl rfl (ri (by omega) (by omega))) ?_ | refine l1 (add rfl rfl) ?_
      refine l1 (asgi rfl) ?_
      refine lnil ?_
      exact nI (i + 1) ⟨by omega, by omega, fun j hj => (Nat.lt_succ_iff_lt_or_eq.1 hj).elim (fun h => hI.2.2 j h) (fun h => by subst h; exact df h2)⟩ (by show n + 1 - (i + 1) < n + 1 - i; omega) ⟨rfl, rfl, rfl, trivial⟩ (List.Sublist.refl _)
  · have hge : ¬ (i < n ∧ i < 100) := by (intro hc; simp at h1; omega)
    refine cexit ?_
    refine nthenE ?_
    refine nIE ?_
    refine nblkE ?_
    refine nthen ?_
    refine cseq ?_
    refine creg ?_
    refine l1 (mvs rfl) ?_
    refine l1 (lens sl54 rfl rfl) ?_
    refine l1 (mvi rfl) ?_
    refine l1 (leq rfl rfl) ?_
    refine l1 (asgb rfl) ?_
    refine lnil ?_
    refine nthen ?_
    refine cret ?_
    exact fin1b rfl rfl (by rw [fewB, fewT_yes (fun j hj h100 => hI.2.2 j (by omega))]; rfl)

theorem neqlArr {t e : TypeId} {n : Nat} {k : IntKind} {x y : Operand} (hu : Try.prog.underlying t = some (.array n e)) (he : Try.prog.underlying e = some (.int k)) (hs : Try.prog.cellsOf e = 1) (hg : Try.prog.eqGuardType Try.prog.depth t = false) (a b : Nat → Int) (w : World) :
    (do eqGuard .neq t x y (.agg (arr k n a).toArray) (.agg (arr k n b).toArray); binOp .neq t (.agg (arr k n a).toArray) (.agg (arr k n b).toArray)).run Try.prog w = .ok (.bool (!eqA n a b)) w := by
  have he : (Op.equal t (.agg (arr k n a).toArray) (.agg (arr k n b).toArray)).run Try.prog w = .ok (eqA n a b) w := arr_eq 9998 hu he hs a b w
  simp [eqGuard, binOp, Sem.run_bind, run_program, hg, he]
theorem neql34 {x y : Operand} (a b : Nat → Int) (w : World) : (do eqGuard .neq 34 x y (.agg (arr .u8 16 a).toArray) (.agg (arr .u8 16 b).toArray); binOp .neq 34 (.agg (arr .u8 16 a).toArray) (.agg (arr .u8 16 b).toArray)).run Try.prog w = .ok (.bool (!eqA 16 a b)) w := neqlArr Try.underlying34 Try.underlying5 (by kernel_rfl) (by kernel_rfl) a b w
theorem eql23 {x y : Operand} (a b : Nat → Int) (w : World) : (do eqGuard .eql 23 x y (.agg (arr .u64 6 a).toArray) (.agg (arr .u64 6 b).toArray); binOp .eql 23 (.agg (arr .u64 6 a).toArray) (.agg (arr .u64 6 b).toArray)).run Try.prog w = .ok (.bool (eqA 6 a b)) w := eqlArr Try.underlying23 Try.underlying22 (by kernel_rfl) (by kernel_rfl) a b w
def eqTok (n : Nat) (t : Nat → Nat → Int) (m : Nat) (u : Nat → Nat → Int) : Bool := bif decide ((n : Int) ≠ (m : Int)) then false else (List.range n).all fun i => eqA 16 (t i) (u i)
theorem eqTok_ne {n m : Nat} {t u : Nat → Nat → Int} (h : decide ((n : Int) ≠ (m : Int)) = true) : eqTok n t m u = false := by unfold eqTok; rw [h]; rfl
theorem eqTok_no {n m i : Nat} {t u : Nat → Nat → Int} (h : decide ((n : Int) ≠ (m : Int)) = false) (hi : i < n) (hne : eqA 16 (t i) (u i) = false) : eqTok n t m u = false := by
  unfold eqTok; rw [h]
  cases hf : (List.range n).all fun i => eqA 16 (t i) (u i) with
  | false => rfl
  | true => have := List.all_eq_true.1 hf i (List.mem_range.2 hi); rw [hne] at this; cases this
theorem eqTok_yes {n m : Nat} {t u : Nat → Nat → Int} (h : decide ((n : Int) ≠ (m : Int)) = false) (hall : ∀ i, i < n → eqA 16 (t i) (u i) = true) : eqTok n t m u = true := by
  unfold eqTok; rw [h]
  exact List.all_eq_true.2 fun i hi => hall i (List.mem_range.1 hi)
theorem eqA_refl (n : Nat) (a : Nat → Int) : eqA n a a = true := eqA_iff.2 fun _ _ => rfl
def sameH (a b : Hd) : Bool := bif !eqTok a.tn a.tok b.tn b.tok then false else (((((((((decide (a.writer = b.writer) && decide (a.seq = b.seq)) && eqA 32 a.prev b.prev) && decide (a.epoch = b.epoch)) && (a.control == b.control)) && decide (a.time = b.time)) && eqA 16 a.item b.item) && eqA 6 a.knows b.knows) && eqA 32 a.sum b.sum) && decide (a.size = b.size)) && eqA 32 a.code b.code
theorem same_core {a b : Hd} (h : core a = core b) : sameH a b = true := by
  have e : sameH a b = sameH (core a) (core b) := rfl
  rw [e, h]
  have ht : eqTok (core b).tn (core b).tok (core b).tn (core b).tok = true := eqTok_yes (by simp) (fun i _ => eqA_refl _ _)
  unfold sameH
  rw [ht]
  simp [eqA_refl]

theorem toksEq_calls (w : World) (p : Option Addr) (n c : Nat) (t : Nat → Nat → Int) (q : Option Addr) (m d : Nat) (u : Nat → Nat → Int) (hn : (n : Int) ≤ 9223372036854775807) (hl : Sl w p n 16 (fun i => arr .u8 16 (t i))) (hk : Sl w q m 16 (fun i => arr .u8 16 (u i))) : Calls Try.prog 83 #[.slice p n c, .slice q m d] w (Ret (.bool (eqTok n t m u)) w) := by
  refine fn_calls (n := 26) Try.func83 rfl rfl (lb rfl) ?_
  refine cseq ?_
  refine creg ?_
  refine l1 (asgb rfl) ?_
  refine lnil ?_
  refine nthen ?_
  refine cseq ?_
  refine cseq ?_
  refine creg ?_
  refine l1 (mvs rfl) ?_
  refine l1 (lens sl35 rfl rfl) ?_
  refine l1 (mvs rfl) ?_
  refine l1 (lens sl35 rfl rfl) ?_
  refine l1 (neq rfl rfl) ?_
  refine lnil ?_
  refine nthen ?_
  refine cif rfl (fun h1 => ?_) (fun h1 => ?_)
  · skip
    refine cseq ?_
    refine creg ?_
    refine l1 (asgb rfl) ?_
    refine lnil ?_
    refine nthen ?_
    refine cret ?_
    refine nthenR ?_
    exact fin1b rfl rfl ((eqTok_ne h1).symm)
  · have hnm : n = m := by (have := df2 h1; omega)
    refine cskip ?_
    refine nthen ?_
    refine cseq ?_
    refine cseq ?_
    refine creg ?_
    refine l1 (mvs rfl) ?_
    refine l1 (lens sl35 rfl rfl) ?_
    refine l1 (mvi rfl) ?_
    refine lnil ?_
    refine nthen ?_
    refine cblock ?_
    refine cloopI (σ := Nat) (fun s => [(0, .slice p n c), (1, .slice q m d), (12, .int .i64 (n : Int)), (13, .int .i64 (s : Int))]) (fun s => []) (fun s => s ≤ n ∧ ∀ j, j < s → eqA 16 (t j) (u j) = true) (fun s => n - s) 0 ⟨Nat.zero_le _, fun j hj => by omega⟩ ⟨rfl, rfl, rfl, rfl, trivial⟩ (List.Sublist.refl _) ?_
    rintro i j hI
    show WC _ _ _ ([]) _ _ (over j [(0, .slice p n c), (1, .slice q m d), (12, .int .i64 (n : Int)), (13, .int .i64 (i : Int))])
    replace hI : i ≤ n ∧ ∀ j, j < i → eqA 16 (t j) (u j) = true := hI
    refine cseq ?_
    refine creg ?_
    refine l1 (lss rfl rfl) ?_
    refine lnil ?_
    refine nthen ?_
    refine cseq ?_
    refine cif rfl (fun h2 => ?_) (fun h2 => ?_)
    · have hlt : i < n := by (have := dt h2; omega)
      obtain ⟨b, o, hp, hbl, hm⟩ := hl.at hlt
      obtain ⟨b2, o2, hq, hbl2, hm2⟩ := hk.at (i := i) (by omega)
      refine cskip ?_
      refine nthen ?_
      refine cseq ?_
      refine cblock ?_
      refine cseq ?_
      refine creg ?_
      refine l1 (mvi rfl) ?_
      refine l1 (asgi rfl) ?_
      refine lnil ?_
      refine nthen ?_
      refine cseq ?_
      refine cregq mo (by kernel_rfl) ?_
      refine q1 (mvs rfl) ?_
      refine q1 (mvi rfl) ?_
      refine q1 (isp sl35 hp rfl rfl (by omega) (by omega)) ?_
      refine q1 (ldam (vs := arr .u8 16 (t i)) Try.isAgg34 Try.sizeOf34 rfl rfl (fun w' hw => (hm i (by omega)).kept hw.below hbl)) ?_
      refine q1 (mvs rfl) ?_
      refine q1 (mvi rfl) ?_
      refine q1 (isp sl35 hq rfl rfl (by omega) (by omega)) ?_
      refine q1 (ldam (vs := arr .u8 16 (u i)) Try.isAgg34 Try.sizeOf34 rfl rfl (fun w' hw => (hm2 i (by omega)).kept hw.below hbl2)) ?_
      refine q1 (neqa rfl rfl (fun w => neql34 _ _ w)) ?_
      refine qnil ?_
      refine nthen ?_
      refine cif rfl (fun h3 => ?_) (fun h3 => ?_)
      · skip
        refine cseq ?_
        refine creg ?_
        refine l1 (asgb rfl) ?_
        refine lnil ?_
        refine nthen ?_
        refine cret ?_
        refine nblkR ?_
        refine nthenR ?_
        refine nIR ?_
        refine nblkR ?_
        refine nthenR ?_
        exact fin1b rfl rfl ((eqTok_no h1 hlt (by simpa using h3)).symm)
      · skip
        refine cskip ?_
        refine nblkN ?_
        refine nthen ?_
        refine creg ?_
        first | refine l1 (addn rfl rfl (ri (by omega) (by omega))) ?_ | refine l1 (add rfl rfl) ?_
        refine l1 (mvi rfl) ?_
        refine lnil ?_
        exact nI (i + 1) ⟨by omega, fun j hj => (Nat.lt_succ_iff_lt_or_eq.1 hj).elim (fun h => hI.2 j h) (fun h => by subst h; simpa using h3)⟩ (by show n - (i + 1) < n - i; omega) ⟨rfl, rfl, rfl, rfl, trivial⟩ (List.Sublist.refl _)
    · have hge : n ≤ i := by (have := df h2; omega)
      refine cexit ?_
      refine nthenE ?_
      refine nIE ?_
      refine nblkE ?_
      refine nthen ?_
      refine cseq ?_
      refine creg ?_
      refine l1 (asgb rfl) ?_
      refine lnil ?_
      refine nthen ?_
      refine cret ?_
      exact fin1b rfl rfl ((eqTok_yes h1 (fun j hj => hI.2 j (by omega))).symm)

set_option maxHeartbeats 1000000 in
theorem sameH_calls (a b : Hd) (w : World) (ha : HdIn w a) (hb : HdIn w b) (ka : HdOk a) : Calls Try.prog 47 #[.agg (encH a).toArray, .agg (encH b).toArray] w (Ret (.bool (sameH a b)) w) := by
  refine fn_calls (n := 86) Try.func47 rfl rfl (lb rfl) ?_
  refine cseq ?_
  refine creg ?_
  refine lbxa rfl (fun b1 => ?_)
  refine lbxa rfl (fun b2 => ?_)
  refine l1 (asgb rfl) ?_
  refine lnil ?_
  refine nthen ?_
  refine cseq ?_
  refine cseq ?_
  refine creg ?_
  refine l1 (fa fa37_7 rfl) ?_
  refine l1 (ldc 0 Try.isAgg35 rfl rfl rfl) ?_
  refine l1 (fa fa37_7 rfl) ?_
  refine l1 (ldc 1 Try.isAgg35 rfl rfl rfl) ?_
  refine l1 (cl hb83 rfl (mc rfl (mc rfl mn)) (fun w hw => toksEq_calls _ _ _ _ _ _ _ _ _ ka.n (Sl.keptS ha hw) (Sl.keptS hb hw))) ?_
  refine l1 (nt rfl) ?_
  refine lnil ?_
  refine nthen ?_
  refine cif rfl (fun h1 => ?_) (fun h1 => ?_)
  · skip
    refine cseq ?_
    refine creg ?_
    refine l1 (asgb rfl) ?_
    refine lnil ?_
    refine nthen ?_
    refine cret ?_
    refine nthenR ?_
    exact fin1b rfl rfl (by simp only [sameH, h1, cond_true, cond_false]; try rfl)
  · skip
    refine cskip ?_
    refine nthen ?_
    refine cseq ?_
    refine creg ?_
    refine l1 (fa fa37_0 rfl) ?_
    refine l1 (ldc 0 Try.isAgg3 rfl rfl rfl) ?_
    refine l1 (fa fa37_0 rfl) ?_
    refine l1 (ldc 1 Try.isAgg3 rfl rfl rfl) ?_
    refine l1 (eql rfl rfl) ?_
    refine l1 (mvb rfl) ?_
    refine l1g rfl (gwt rfl) (fun h => fa fa37_1 rfl) ?_
    refine l1g rfl (gwt rfl) (fun h => ldc 0 Try.isAgg22 rfl (gvt h) rfl) ?_
    refine l1g rfl (gwt rfl) (fun h => fa fa37_1 rfl) ?_
    refine l1g rfl (gwt rfl) (fun h => ldc 1 Try.isAgg22 rfl (gvt h) rfl) ?_
    refine l1g rfl (gwt rfl) (fun h => eql (gvt h) (gvt h)) ?_
    refine l1 (pk_and rfl rfl rfl) ?_
    refine l1 (mvb rfl) ?_
    refine l1g rfl (gwt rfl) (fun h => fa fa37_2 rfl) ?_
    refine l1g rfl (gwt rfl) (fun h => lda 0 Try.isAgg32 Try.sizeOf32 rfl (gvt h) (encH_prev _) rfl) ?_
    refine l1g rfl (gwt rfl) (fun h => fa fa37_2 rfl) ?_
    refine l1g rfl (gwt rfl) (fun h => lda 1 Try.isAgg32 Try.sizeOf32 rfl (gvt h) (encH_prev _) rfl) ?_
    refine l1g rfl (gwt rfl) (fun h => eqla (gvt h) (gvt h) (fun w => eql32 _ _ w)) ?_
    refine l1 (pk_and rfl rfl rfl) ?_
    refine l1 (mvb rfl) ?_
    refine l1g rfl (gwt rfl) (fun h => fa fa37_3 rfl) ?_
    refine l1g rfl (gwt rfl) (fun h => ldc 0 Try.isAgg3 rfl (gvt h) rfl) ?_
    refine l1g rfl (gwt rfl) (fun h => fa fa37_3 rfl) ?_
    refine l1g rfl (gwt rfl) (fun h => ldc 1 Try.isAgg3 rfl (gvt h) rfl) ?_
    refine l1g rfl (gwt rfl) (fun h => eql (gvt h) (gvt h)) ?_
    refine l1 (pk_and rfl rfl rfl) ?_
    refine l1 (mvb rfl) ?_
    refine l1g rfl (gwt rfl) (fun h => fa fa37_4 rfl) ?_
    refine l1g rfl (gwt rfl) (fun h => ldc 0 Try.isAgg4 rfl (gvt h) rfl) ?_
    refine l1g rfl (gwt rfl) (fun h => fa fa37_4 rfl) ?_
    refine l1g rfl (gwt rfl) (fun h => ldc 1 Try.isAgg4 rfl (gvt h) rfl) ?_
    refine l1g rfl (gwt rfl) (fun h => eqlb Try.underlying4 (gvt h) (gvt h)) ?_
    refine l1 (pk_and rfl rfl rfl) ?_
    refine l1 (mvb rfl) ?_
    refine l1g rfl (gwt rfl) (fun h => fa fa37_5 rfl) ?_
    refine l1g rfl (gwt rfl) (fun h => ldc 0 Try.isAgg22 rfl (gvt h) rfl) ?_
    refine l1g rfl (gwt rfl) (fun h => fa fa37_5 rfl) ?_
    refine l1g rfl (gwt rfl) (fun h => ldc 1 Try.isAgg22 rfl (gvt h) rfl) ?_
    refine l1g rfl (gwt rfl) (fun h => eql (gvt h) (gvt h)) ?_
    refine l1 (pk_and rfl rfl rfl) ?_
    refine l1 (mvb rfl) ?_
    refine l1g rfl (gwt rfl) (fun h => fa fa37_6 rfl) ?_
    refine l1g rfl (gwt rfl) (fun h => lda 0 Try.isAgg34 Try.sizeOf34 rfl (gvt h) (encH_item _) rfl) ?_
    refine l1g rfl (gwt rfl) (fun h => fa fa37_6 rfl) ?_
    refine l1g rfl (gwt rfl) (fun h => lda 1 Try.isAgg34 Try.sizeOf34 rfl (gvt h) (encH_item _) rfl) ?_
    refine l1g rfl (gwt rfl) (fun h => eqla (gvt h) (gvt h) (fun w => eql34 _ _ w)) ?_
    refine l1 (pk_and rfl rfl rfl) ?_
    refine l1 (mvb rfl) ?_
    refine l1g rfl (gwt rfl) (fun h => fa fa37_8 rfl) ?_
    refine l1g rfl (gwt rfl) (fun h => lda 0 Try.isAgg23 Try.sizeOf23 rfl (gvt h) (encH_knows _) rfl) ?_
    refine l1g rfl (gwt rfl) (fun h => fa fa37_8 rfl) ?_
    refine l1g rfl (gwt rfl) (fun h => lda 1 Try.isAgg23 Try.sizeOf23 rfl (gvt h) (encH_knows _) rfl) ?_
    refine l1g rfl (gwt rfl) (fun h => eqla (gvt h) (gvt h) (fun w => eql23 _ _ w)) ?_
    refine l1 (pk_and rfl rfl rfl) ?_
    refine l1 (mvb rfl) ?_
    refine l1g rfl (gwt rfl) (fun h => fa fa37_9 rfl) ?_
    refine l1g rfl (gwt rfl) (fun h => lda 0 Try.isAgg32 Try.sizeOf32 rfl (gvt h) (encH_sum _) rfl) ?_
    refine l1g rfl (gwt rfl) (fun h => fa fa37_9 rfl) ?_
    refine l1g rfl (gwt rfl) (fun h => lda 1 Try.isAgg32 Try.sizeOf32 rfl (gvt h) (encH_sum _) rfl) ?_
    refine l1g rfl (gwt rfl) (fun h => eqla (gvt h) (gvt h) (fun w => eql32 _ _ w)) ?_
    refine l1 (pk_and rfl rfl rfl) ?_
    refine l1 (mvb rfl) ?_
    refine l1g rfl (gwt rfl) (fun h => fa fa37_10 rfl) ?_
    refine l1g rfl (gwt rfl) (fun h => ldc 0 Try.isAgg3 rfl (gvt h) rfl) ?_
    refine l1g rfl (gwt rfl) (fun h => fa fa37_10 rfl) ?_
    refine l1g rfl (gwt rfl) (fun h => ldc 1 Try.isAgg3 rfl (gvt h) rfl) ?_
    refine l1g rfl (gwt rfl) (fun h => eql (gvt h) (gvt h)) ?_
    refine l1 (pk_and rfl rfl rfl) ?_
    refine l1 (mvb rfl) ?_
    refine l1g rfl (gwt rfl) (fun h => fa fa37_11 rfl) ?_
    refine l1g rfl (gwt rfl) (fun h => lda 0 Try.isAgg32 Try.sizeOf32 rfl (gvt h) (encH_code _) rfl) ?_
    refine l1g rfl (gwt rfl) (fun h => fa fa37_11 rfl) ?_
    refine l1g rfl (gwt rfl) (fun h => lda 1 Try.isAgg32 Try.sizeOf32 rfl (gvt h) (encH_code _) rfl) ?_
    refine l1g rfl (gwt rfl) (fun h => eqla (gvt h) (gvt h) (fun w => eql32 _ _ w)) ?_
    refine l1 (pk_and rfl rfl rfl) ?_
    refine l1 (asgb rfl) ?_
    refine lnil ?_
    refine nthen ?_
    refine cret ?_
    exact fin1b rfl rfl (by simp only [sameH, h1, cond_true, cond_false]; try rfl)
end Go.Proofs.Ytkdbjhlkahkobaa
/- more forms of append; a slice cut -/
namespace Jal
open Go Go.RowKit
section
variable {P : Program} {ops : Array Oper} {Q : Exit → Act → World → Prop} {w0 : World} {H : List Ent} {rest : List Oper} {n : Nat} {F : Nat → Value} {d : Nat} {op : Op} {ty : TypeId} {pos : String} {af : Array Edge} {v : Value}
/-- append to a row that stands behind another one -/
theorem lapp3 {t e : TypeId} {size bytes : Nat} {s x : Operand} {v : Value} {k : Nat} {xs news : List Value} {ad : Addr} {m c : Nat} (A1 A2 B oe : List Ent) (hT : ElT P t e size bytes) (hH : H = A1 ++ (A2 ++ (oe ++ B)))
    (hs : ev n F s = v) (hown : OwnL e size v k xs oe) (hx : ev n F x = .slice (some ad) m c) (hl : news.length = m * size) (hnews : ∀ w, Sat w0 H w → Mem w ad news) (h1 : ∀ u ∈ news, u.oneCell' = true)
    (hm : 0 < m) (h63 : k + m ≤ maxLen) (hby : (k + m) * bytes ≤ 140737488355328)
    (h : ∀ g cap oe', OwnL e size (.slice (some ⟨g, 0, none⟩) (k + m) cap) (k + m) (xs ++ news) oe' → WL P ops Q w0 (A1 ++ (A2 ++ (oe' ++ B))) rest n (upd F d (.slice (some ⟨g, 0, none⟩) (k + m) cap))) :
    WL P ops Q w0 H (⟨some d, .call { callee := .builtin .append, args := #[s, x], argTypes := #[t, t] }, ty, pos, af, none⟩ :: rest) n F :=
  lapp (A1 ++ A2) B oe hT (by rw [hH, List.append_assoc]) hs hown hx hl hnews h1 hm h63 hby (fun g cap oe' ho => by rw [List.append_assoc]; exact h g cap oe' ho)
end
section
variable {P : Program} {C : World → Prop} {ρ : Operand → Value} {d : Option Tmp} {ty : TypeId} {pos : String} {af : Array Edge} {g : Option (Nat × Bool)}
theorem min2n {x y : Operand} {k : IntKind} {a b : Nat} {ats : Array TypeId} (hx : ρ x = .int k (a : Int)) (hy : ρ y = .int k (b : Int)) :
    Qu P C ρ ⟨d, .call { callee := .builtin .min, args := #[x, y], argTypes := ats }, ty, pos, af, g⟩ (.int k ((min a b : Nat) : Int)) := by
  have := min2 (P := P) (C := C) (d := d) (ty := ty) (pos := pos) (af := af) (g := g) (ats := ats) hx hy
  rwa [show min (a : Int) (b : Int) = ((min a b : Nat) : Int) from by omega] at this
theorem OwnL_cap {e : TypeId} {size : Nat} {p : Option Addr} {n c : Nat} {xs : List Value} {oe : List Ent} (h : OwnL e size (.slice p n c) n xs oe) : n ≤ c ∧ (p = none ∨ ∃ b o, p = some ⟨b, o, none⟩) := by
  rcases h.2 with ⟨h1, h2, _⟩ | ⟨g, cap, cur, h1, _, h3, _⟩
  · cases h1; exact ⟨by omega, .inl rfl⟩
  · cases h1; exact ⟨h3, .inr ⟨_, _, rfl⟩⟩
theorem SlIn.le {H : List Ent} {p : Option Addr} {n m sz : Nat} {el : Nat → List Value} (h : SlIn H p n sz el) (hm : m ≤ n) : SlIn H p m sz el := by
  rcases h with h | ⟨e, he, hp, h⟩
  · exact .inl (by omega)
  · exact .inr ⟨e, he, hp, fun i hi => h i (by omega)⟩
/-- a slice cut at an upper bound -/
theorem slhi {t e : TypeId} {sz : Nat} {x y : Operand} {p : Option Addr} {n c m : Nat} {k : IntKind} (hu : P.underlying t = some (.slice e)) (hs : ∀ w, (Go.sizeOf e).run P w = .ok sz w) (hx : ρ x = .slice p n c) (hy : ρ y = .int k (m : Int)) (hm : m ≤ c)
    (hp : p = none ∨ ∃ b o, p = some ⟨b, o, none⟩) : Qu P C ρ ⟨d, .slice t x none (some y) none, ty, pos, af, g⟩ (.slice p m c) :=
  qu_of_run fun w _ => by
    have hb : (Instr.sliceBound (.int k (m : Int)) c .sliceAcap).run P w = .ok m w := by
      have : (0 : Int) ≤ m ∧ (m : Int) ≤ c := by omega
      simp [Instr.sliceBound, asIntOf, hm]
    have hadd : p.map (fun a => a.add 0) = p := by
      rcases hp with rfl | ⟨b, o, rfl⟩
      · rfl
      · simp [Addr.add]
    by_cases hc : c = 0
    · subst hc
      simp [execOp, hx, hy, Instr.sliceAt, Instr.slice, Instr.sliceBounds, run_underlying hu, hs, hb]
    · simp [execOp, hx, hy, Instr.sliceAt, Instr.slice, Instr.sliceBounds, run_underlying hu, hs, hb, hc, hadd]
end
end Jal
/- rows as plain data -/
namespace Go.Proofs.Ytkdbjhlkahkobaa
open Jal Go.RowKit
set_option maxRecDepth 100000
structure Ch where
  op : Int
  name : ByteArray
  gp : Option Addr
  gn : Nat
  gc : Nat
  tag : Nat → ByteArray
  value : ByteArray
def encCh (c : Ch) : List Value := [.int .i64 c.op, .string c.name, .slice c.gp c.gn c.gc, .string c.value]
def encT (s : ByteArray) : List Value := [.string s]
def ChIn (w : World) (c : Ch) : Prop := Sl w c.gp c.gn 1 (fun i => encT (c.tag i))
structure ChOk (c : Ch) : Prop where
  o : I64 c.op
  n : (c.gn : Int) ≤ 9223372036854775807
  m : c.name.size ≤ maxLen
  v : c.value.size ≤ maxLen
  t : ∀ i, i < c.gn → (c.tag i).size ≤ maxLen
structure Rw where
  hd : Hd
  known : Bool
  ch : Ch
def encR (r : Rw) : List Value := encH r.hd ++ (.bool r.known :: encCh r.ch)
theorem encR_hd (r : Rw) : ((encR r).drop 0).take 125 = encH r.hd := rfl
theorem encR_known (r : Rw) : (encR r)[125]? = some (.bool r.known) := rfl
theorem encR_ch (r : Rw) : ((encR r).drop 126).take 4 = encCh r.ch := rfl
theorem encR_len (r : Rw) : (encR r).length = 130 := rfl
theorem encR_item (r : Rw) : ((encR r).drop 37).take 16 = arr .u8 16 r.hd.item := rfl
theorem encR_one (r : Rw) : ∀ u ∈ encR r, u.oneCell' = true := oneA rfl
structure RwIn (w : World) (r : Rw) : Prop where
  h : HdIn w r.hd
  c : ChIn w r.ch
structure RwOk (r : Rw) : Prop where
  h : HdOk r.hd
  c : ChOk r.ch
theorem RwIn.keptS {w0 w : World} {H : List Ent} {r : Rw} (h : RwIn w0 r) (hw : Sat w0 H w) : RwIn w r := ⟨Sl.keptS h.h hw, Sl.keptS h.c hw⟩
/-! ### texts -/
theorem bl_irrefl : ∀ (a : List UInt8), Op.bytesLess a a = false
  | [] => rfl
  | x :: a => by simp [Op.bytesLess, bl_irrefl a]
theorem bl_total : ∀ (a b : List UInt8), (!Op.bytesLess a b) = (Op.bytesLess b a || b == a)
  | [], [] => rfl
  | [], _ :: _ => rfl
  | _ :: _, [] => rfl
  | x :: a, y :: b => by
    have ih := bl_total a b
    unfold Op.bytesLess
    by_cases h : x = y
    · subst h
      simp [ih]
    · have h2 : ¬ y = x := fun e => h e.symm
      rcases Nat.lt_or_gt_of_ne (fun e => h (UInt8.toNat_inj.1 e)) with hlt | hlt
      · have h3 : x < y := UInt8.lt_iff_toNat_lt.2 hlt
        have h4 : ¬ y < x := fun hc => by have := UInt8.lt_iff_toNat_lt.1 hc; omega
        simp [h, h2, h3, h4]
      · have h3 : y < x := UInt8.lt_iff_toNat_lt.2 hlt
        have h4 : ¬ x < y := fun hc => by have := UInt8.lt_iff_toNat_lt.1 hc; omega
        simp [h, h2, h3, h4]
def nameB (s : ByteArray) : Bool := decide ((s.size : Int) ≥ 1) && decide ((s.size : Int) ≤ 24)
/-- what is wrong with the i-th tag -/
def tagBad (t : Nat → ByteArray) (i : Nat) : Bool := !nameB (t i) || (decide ((i : Int) > 0) && !Op.bytesLess (t (i - 1)).toList (t i).toList)
def tagsB (n : Nat) (t : Nat → ByteArray) : Bool := !(List.range n).any (tagBad t)
theorem tags_bad {n i : Nat} {t : Nat → ByteArray} (hi : i < n) (h : tagBad t i = true) : tagsB n t = false := by
  unfold tagsB
  rw [List.any_eq_true.2 ⟨i, List.mem_range.2 hi, h⟩]; rfl
theorem tags_good {n : Nat} {t : Nat → ByteArray} (h : ∀ i, i < n → tagBad t i = false) : tagsB n t = true := by
  unfold tagsB
  have : (List.range n).any (tagBad t) = false := by
    rw [List.any_eq_false]
    intro i hi
    rw [h i (List.mem_range.1 hi)]; simp
  rw [this]; rfl
def emptyB (s : ByteArray) : Bool := s.toList == (ByteArray.mk #[]).toList
def fchB (c : Ch) : Bool := bif ((!nameB c.name || !(tagsB c.gn c.tag && decide ((c.gn : Int) ≤ 8))) || decide ((c.value.size : Int) > 512)) then false else
  bif decide (c.op = 2) then (bif decide ((c.gn : Int) > 0) then false else emptyB c.value) else bif decide (c.op = 3) then emptyB c.value else decide (c.op = 1)
def blankB (c : Ch) : Bool := ((decide (c.op = 0) && emptyB c.name) && decide ((c.gn : Int) = 0)) && emptyB c.value
def formedR (r : Rw) : Bool := bif !formedH r.hd || r.hd.control then false else bif r.known then fchB r.ch else blankB r.ch
end Go.Proofs.Ytkdbjhlkahkobaa
