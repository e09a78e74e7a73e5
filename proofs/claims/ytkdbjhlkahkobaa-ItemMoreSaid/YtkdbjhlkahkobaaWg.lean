/- walks, printed by a program of ours -/
import Derived.Test.YtkdbjhlkahkobaaTy
import Derived.Test.YtkdbjhlkahkobaaDef
import Derived.Test.YtkdbjhlkahkobaaWf
namespace Go.Proofs.Ytkdbjhlkahkobaa
open Jal Go.RowKit
set_option maxRecDepth 100000
def plcB (x : Hd) : Bool := ((((((decide (x.writer < 1) || decide (x.writer > 6)) || decide (x.seq < 1)) || decide (x.seq > 1048576)) || decide (x.epoch < 0)) || decide (x.epoch > 255)) || decide (x.time > 1099511627776)) || decide (x.knows (x.writer - 1).toNat ≠ x.seq - 1)
def knowB (k : Nat → Int) (r : Bool) : Bool := bif decide (k 0 > 1048576) then false else bif decide (k 1 > 1048576) then false else bif decide (k 2 > 1048576) then false else bif decide (k 3 > 1048576) then false else bif decide (k 4 > 1048576) then false else bif decide (k 5 > 1048576) then false else r
def firstB (x : Hd) : Bool := decide (x.seq > 1) || eqA 32 x.prev (fun _ => 0)
def plainB (x : Hd) : Bool := !x.control || (decide ((x.tn : Int) = 0) && eqA 16 x.item (fun _ => 0))
def placedB (x : Hd) : Bool := bif plcB x then false else knowB x.knows (firstB x)
def formedH (x : Hd) : Bool := bif ((!placedB x || decide ((x.tn : Int) > 8)) || !sortedT x.tn x.tok) || !isB (IntKind.i64.wrap (x.size - 16)) then false else plainB x
theorem plc_no {x : Hd} (h : plcB x = false) : 1 ≤ x.writer ∧ x.writer ≤ 6 ∧ 1 ≤ x.seq ∧ x.seq ≤ 1048576 ∧ 0 ≤ x.epoch ∧ x.epoch ≤ 255 ∧ x.time ≤ 1099511627776 ∧ x.knows (x.writer - 1).toNat = x.seq - 1 := by
  simp only [plcB, Bool.or_eq_false_iff, decide_eq_false_iff_not, Decidable.not_not, ne_eq] at h; omega
theorem placed_no {x : Hd} (h : placedB x = true) : plcB x = false := by
  cases hp : plcB x with
  | false => rfl
  | true => simp [placedB, hp] at h
theorem formed_placed {x : Hd} (h : formedH x = true) : placedB x = true := by
  cases hp : placedB x with
  | true => rfl
  | false => simp [formedH, hp] at h
theorem formed_w {x : Hd} (h : formedH x = true) : 1 ≤ x.writer ∧ x.writer ≤ 6 ∧ 1 ≤ x.seq ∧ x.seq ≤ 1048576 ∧ 0 ≤ x.epoch ∧ x.epoch ≤ 255 ∧ x.time ≤ 1099511627776 ∧ x.knows (x.writer - 1).toNat = x.seq - 1 := plc_no (placed_no (formed_placed h))

theorem placed_calls (x : Hd) (w : World) : Calls Try.prog 107 #[.agg (encH x).toArray] w (Ret (.bool (placedB x)) w) := by
  refine fn_calls (n := 67) Try.func107 rfl rfl (lb rfl) ?_
  refine cseq ?_
  refine creg ?_
  refine lbxa rfl (fun b1 => ?_)
  refine l1 (asgb rfl) ?_
  refine lnil ?_
  refine nthen ?_
  refine cseq ?_
  refine cseq ?_
  refine cregq mo (by kernel_rfl) ?_
  refine q1 (fa fa37_0 rfl) ?_
  refine q1 (ldc 0 Try.isAgg3 rfl rfl rfl) ?_
  refine q1 (lss rfl rfl) ?_
  refine q1 (mvb rfl) ?_
  refine q1g rfl (gwf rfl) (fun h => fa fa37_0 rfl) ?_
  refine q1g rfl (gwf rfl) (fun h => ldc 0 Try.isAgg3 rfl (gvt h) rfl) ?_
  refine q1g rfl (gwf rfl) (fun h => gtr (gvt h) rfl) ?_
  refine q1 (pk_or rfl rfl rfl) ?_
  refine q1 (mvb rfl) ?_
  refine q1g rfl (gwf rfl) (fun h => fa fa37_1 rfl) ?_
  refine q1g rfl (gwf rfl) (fun h => ldc 0 Try.isAgg22 rfl (gvt h) rfl) ?_
  refine q1g rfl (gwf rfl) (fun h => lss (gvt h) rfl) ?_
  refine q1 (pk_or rfl rfl rfl) ?_
  refine q1 (mvb rfl) ?_
  refine q1g rfl (gwf rfl) (fun h => fa fa37_1 rfl) ?_
  refine q1g rfl (gwf rfl) (fun h => ldc 0 Try.isAgg22 rfl (gvt h) rfl) ?_
  refine q1g rfl (gwf rfl) (fun h => gtr (gvt h) rfl) ?_
  refine q1 (pk_or rfl rfl rfl) ?_
  refine q1 (mvb rfl) ?_
  refine q1g rfl (gwf rfl) (fun h => fa fa37_3 rfl) ?_
  refine q1g rfl (gwf rfl) (fun h => ldc 0 Try.isAgg3 rfl (gvt h) rfl) ?_
  refine q1g rfl (gwf rfl) (fun h => lss (gvt h) rfl) ?_
  refine q1 (pk_or rfl rfl rfl) ?_
  refine q1 (mvb rfl) ?_
  refine q1g rfl (gwf rfl) (fun h => fa fa37_3 rfl) ?_
  refine q1g rfl (gwf rfl) (fun h => ldc 0 Try.isAgg3 rfl (gvt h) rfl) ?_
  refine q1g rfl (gwf rfl) (fun h => gtr (gvt h) rfl) ?_
  refine q1 (pk_or rfl rfl rfl) ?_
  refine q1 (mvb rfl) ?_
  refine q1g rfl (gwf rfl) (fun h => fa fa37_5 rfl) ?_
  refine q1g rfl (gwf rfl) (fun h => ldc 0 Try.isAgg22 rfl (gvt h) rfl) ?_
  refine q1g rfl (gwf rfl) (fun h => gtr (gvt h) rfl) ?_
  refine q1 (pk_or rfl rfl rfl) ?_
  refine q1 (mvb rfl) ?_
  refine q1g rfl (gwf rfl) (fun h => fa fa37_0 rfl) ?_
  refine q1g rfl (gwf rfl) (fun h => ldc 0 Try.isAgg3 rfl (gvt h) rfl) ?_
  first | refine q1g rfl (gwf rfl) (fun h => subn (gvt h) rfl (ri (by first | omega | (simp at h; omega)) (by first | omega | (simp at h; omega))) ) ?_ | refine q1g rfl (gwf rfl) (fun h => sub (gvt h) rfl ) ?_
  refine q1g rfl (gwf rfl) (fun h => fa fa37_8 rfl) ?_
  refine q1g rfl (gwf rfl) (fun h => ia ar23 (gvt h) (gvt h) (by first | omega | (simp at h; omega)) (by first | omega | (simp at h; omega))) ?_
  refine q1g rfl (gwf rfl) (fun h => ldc 0 Try.isAgg22 rfl (gvt h) (encH_know _ _ (by first | omega | (simp at h; omega)))) ?_
  refine q1g rfl (gwf rfl) (fun h => fa fa37_1 rfl) ?_
  refine q1g rfl (gwf rfl) (fun h => ldc 0 Try.isAgg22 rfl (gvt h) rfl) ?_
  first | refine q1g rfl (gwf rfl) (fun h => subn (gvt h) rfl (ru (by first | omega | (simp at h; omega)) (by first | omega | (simp at h; omega))) ) ?_ | refine q1g rfl (gwf rfl) (fun h => sub (gvt h) rfl ) ?_
  refine q1g rfl (gwf rfl) (fun h => neq (gvt h) (gvt h)) ?_
  refine q1 (pk_or rfl rfl rfl) ?_
  refine qnil ?_
  refine nthen ?_
  refine cif rfl (fun h1 => ?_) (fun h1 => ?_)
  · change plcB x = _ at h1
    refine cseq ?_
    refine creg ?_
    refine l1 (asgb rfl) ?_
    refine lnil ?_
    refine nthen ?_
    refine cret ?_
    refine nthenR ?_
    exact fin1b rfl rfl (by first | rfl | (simp only [placedB, knowB, firstB, h1, cond_true, cond_false]; done))
  · change plcB x = _ at h1
    refine cskip ?_
    refine nthen ?_
    refine cseq ?_
    refine cseq ?_
    refine creg ?_
    refine l1 (fa fa37_8 rfl) ?_
    refine l1 (lda 0 Try.isAgg23 Try.sizeOf23 rfl rfl (encH_knows _) rfl) ?_
    refine l1 (mvi rfl) ?_
    refine lnil ?_
    refine nthen ?_
    refine cblock ?_
    refine cloopN 7 ?_
    refine rsucc ?_
    refine cseq ?_
    refine creg ?_
    refine l1 (lss rfl rfl) ?_
    refine lnil ?_
    refine nthen ?_
    refine cseq ?_
    refine cift rfl ?_
    refine cskip ?_
    refine nthen ?_
    refine cseq ?_
    refine cblock ?_
    refine cseq ?_
    refine creg ?_
    refine l1 (ixv Try.underlying23 Try.sizeOf22 Try.isAgg22 rfl rfl (by decide) (by decide) rfl) ?_
    refine l1 (asgi rfl) ?_
    refine lnil ?_
    refine nthen ?_
    refine cseq ?_
    refine creg ?_
    refine l1 (mvi rfl) ?_
    refine l1 (gtr rfl rfl) ?_
    refine lnil ?_
    refine nthen ?_
    refine cif rfl (fun h2 => ?_) (fun h2 => ?_)
    · skip
      refine cseq ?_
      refine creg ?_
      refine l1 (asgb rfl) ?_
      refine lnil ?_
      refine nthen ?_
      refine cret ?_
      refine nblkR ?_
      refine nthenR ?_
      refine nroundR ?_
      refine nblkR ?_
      refine nthenR ?_
      exact fin1b rfl rfl (by first | rfl | (simp only [placedB, knowB, firstB, h1, h2, cond_true, cond_false]; done))
    · skip
      refine cskip ?_
      refine nblkN ?_
      refine nthen ?_
      refine creg ?_
      first | refine l1 (addn rfl rfl (ri (by omega) (by omega))) ?_ | refine l1 (add rfl rfl) ?_
      refine l1 (mvi rfl) ?_
      refine lnil ?_
      refine nround (rsucc ?_)
      refine cseq ?_
      refine creg ?_
      refine l1 (lss rfl rfl) ?_
      refine lnil ?_
      refine nthen ?_
      refine cseq ?_
      refine cift rfl ?_
      refine cskip ?_
      refine nthen ?_
      refine cseq ?_
      refine cblock ?_
      refine cseq ?_
      refine creg ?_
      refine l1 (ixv Try.underlying23 Try.sizeOf22 Try.isAgg22 rfl rfl (by decide) (by decide) rfl) ?_
      refine l1 (asgi rfl) ?_
      refine lnil ?_
      refine nthen ?_
      refine cseq ?_
      refine creg ?_
      refine l1 (mvi rfl) ?_
      refine l1 (gtr rfl rfl) ?_
      refine lnil ?_
      refine nthen ?_
      refine cif rfl (fun h3 => ?_) (fun h3 => ?_)
      · skip
        refine cseq ?_
        refine creg ?_
        refine l1 (asgb rfl) ?_
        refine lnil ?_
        refine nthen ?_
        refine cret ?_
        refine nblkR ?_
        refine nthenR ?_
        refine nroundR ?_
        refine nblkR ?_
        refine nthenR ?_
        exact fin1b rfl rfl (by first | rfl | (simp only [placedB, knowB, firstB, h1, h2, h3, cond_true, cond_false]; done))
      · skip
        refine cskip ?_
        refine nblkN ?_
        refine nthen ?_
        refine creg ?_
        first | refine l1 (addn rfl rfl (ri (by omega) (by omega))) ?_ | refine l1 (add rfl rfl) ?_
        refine l1 (mvi rfl) ?_
        refine lnil ?_
        refine nround (rsucc ?_)
        refine cseq ?_
        refine creg ?_
        refine l1 (lss rfl rfl) ?_
        refine lnil ?_
        refine nthen ?_
        refine cseq ?_
        refine cift rfl ?_
        refine cskip ?_
        refine nthen ?_
        refine cseq ?_
        refine cblock ?_
        refine cseq ?_
        refine creg ?_
        refine l1 (ixv Try.underlying23 Try.sizeOf22 Try.isAgg22 rfl rfl (by decide) (by decide) rfl) ?_
        refine l1 (asgi rfl) ?_
        refine lnil ?_
        refine nthen ?_
        refine cseq ?_
        refine creg ?_
        refine l1 (mvi rfl) ?_
        refine l1 (gtr rfl rfl) ?_
        refine lnil ?_
        refine nthen ?_
        refine cif rfl (fun h4 => ?_) (fun h4 => ?_)
        · skip
          refine cseq ?_
          refine creg ?_
          refine l1 (asgb rfl) ?_
          refine lnil ?_
          refine nthen ?_
          refine cret ?_
          refine nblkR ?_
          refine nthenR ?_
          refine nroundR ?_
          refine nblkR ?_
          refine nthenR ?_
          exact fin1b rfl rfl (by first | rfl | (simp only [placedB, knowB, firstB, h1, h2, h3, h4, cond_true, cond_false]; done))
        · skip
          refine cskip ?_
          refine nblkN ?_
          refine nthen ?_
          refine creg ?_
          first | refine l1 (addn rfl rfl (ri (by omega) (by omega))) ?_ | refine l1 (add rfl rfl) ?_
          refine l1 (mvi rfl) ?_
          refine lnil ?_
          refine nround (rsucc ?_)
          refine cseq ?_
          refine creg ?_
          refine l1 (lss rfl rfl) ?_
          refine lnil ?_
          refine nthen ?_
          refine cseq ?_
          refine cift rfl ?_
          refine cskip ?_
          refine nthen ?_
          refine cseq ?_
          refine cblock ?_
          refine cseq ?_
          refine creg ?_
          refine l1 (ixv Try.underlying23 Try.sizeOf22 Try.isAgg22 rfl rfl (by decide) (by decide) rfl) ?_
          refine l1 (asgi rfl) ?_
          refine lnil ?_
          refine nthen ?_
          refine cseq ?_
          refine creg ?_
          refine l1 (mvi rfl) ?_
          refine l1 (gtr rfl rfl) ?_
          refine lnil ?_
          refine nthen ?_
          refine cif rfl (fun h5 => ?_) (fun h5 => ?_)
          · skip
            refine cseq ?_
            refine creg ?_
            refine l1 (asgb rfl) ?_
            refine lnil ?_
            refine nthen ?_
            refine cret ?_
            refine nblkR ?_
            refine nthenR ?_
            refine nroundR ?_
            refine nblkR ?_
            refine nthenR ?_
            exact fin1b rfl rfl (by first | rfl | (simp only [placedB, knowB, firstB, h1, h2, h3, h4, h5, cond_true, cond_false]; done))
          · skip
            refine cskip ?_
            refine nblkN ?_
            refine nthen ?_
            refine creg ?_
            first | refine l1 (addn rfl rfl (ri (by omega) (by omega))) ?_ | refine l1 (add rfl rfl) ?_
            refine l1 (mvi rfl) ?_
            refine lnil ?_
            refine nround (rsucc ?_)
            refine cseq ?_
            refine creg ?_
            refine l1 (lss rfl rfl) ?_
            refine lnil ?_
            refine nthen ?_
            refine cseq ?_
            refine cift rfl ?_
            refine cskip ?_
            refine nthen ?_
            refine cseq ?_
            refine cblock ?_
            refine cseq ?_
            refine creg ?_
            refine l1 (ixv Try.underlying23 Try.sizeOf22 Try.isAgg22 rfl rfl (by decide) (by decide) rfl) ?_
            refine l1 (asgi rfl) ?_
            refine lnil ?_
            refine nthen ?_
            refine cseq ?_
            refine creg ?_
            refine l1 (mvi rfl) ?_
            refine l1 (gtr rfl rfl) ?_
            refine lnil ?_
            refine nthen ?_
            refine cif rfl (fun h6 => ?_) (fun h6 => ?_)
            · skip
              refine cseq ?_
              refine creg ?_
              refine l1 (asgb rfl) ?_
              refine lnil ?_
              refine nthen ?_
              refine cret ?_
              refine nblkR ?_
              refine nthenR ?_
              refine nroundR ?_
              refine nblkR ?_
              refine nthenR ?_
              exact fin1b rfl rfl (by first | rfl | (simp only [placedB, knowB, firstB, h1, h2, h3, h4, h5, h6, cond_true, cond_false]; done))
            · skip
              refine cskip ?_
              refine nblkN ?_
              refine nthen ?_
              refine creg ?_
              first | refine l1 (addn rfl rfl (ri (by omega) (by omega))) ?_ | refine l1 (add rfl rfl) ?_
              refine l1 (mvi rfl) ?_
              refine lnil ?_
              refine nround (rsucc ?_)
              refine cseq ?_
              refine creg ?_
              refine l1 (lss rfl rfl) ?_
              refine lnil ?_
              refine nthen ?_
              refine cseq ?_
              refine cift rfl ?_
              refine cskip ?_
              refine nthen ?_
              refine cseq ?_
              refine cblock ?_
              refine cseq ?_
              refine creg ?_
              refine l1 (ixv Try.underlying23 Try.sizeOf22 Try.isAgg22 rfl rfl (by decide) (by decide) rfl) ?_
              refine l1 (asgi rfl) ?_
              refine lnil ?_
              refine nthen ?_
              refine cseq ?_
              refine creg ?_
              refine l1 (mvi rfl) ?_
              refine l1 (gtr rfl rfl) ?_
              refine lnil ?_
              refine nthen ?_
              refine cif rfl (fun h7 => ?_) (fun h7 => ?_)
              · skip
                refine cseq ?_
                refine creg ?_
                refine l1 (asgb rfl) ?_
                refine lnil ?_
                refine nthen ?_
                refine cret ?_
                refine nblkR ?_
                refine nthenR ?_
                refine nroundR ?_
                refine nblkR ?_
                refine nthenR ?_
                exact fin1b rfl rfl (by first | rfl | (simp only [placedB, knowB, firstB, h1, h2, h3, h4, h5, h6, h7, cond_true, cond_false]; done))
              · skip
                refine cskip ?_
                refine nblkN ?_
                refine nthen ?_
                refine creg ?_
                first | refine l1 (addn rfl rfl (ri (by omega) (by omega))) ?_ | refine l1 (add rfl rfl) ?_
                refine l1 (mvi rfl) ?_
                refine lnil ?_
                refine nround (rsucc ?_)
                refine cseq ?_
                refine creg ?_
                refine l1 (lss rfl rfl) ?_
                refine lnil ?_
                refine nthen ?_
                refine cseq ?_
                refine ciff rfl ?_
                refine cexit ?_
                refine nthenE ?_
                refine nroundE ?_
                refine nblkE ?_
                refine nthen ?_
                refine cseq ?_
                refine creg ?_
                refine l1 (fa fa37_1 rfl) ?_
                refine l1 (ldc 0 Try.isAgg22 rfl rfl rfl) ?_
                refine l1 (gtr rfl rfl) ?_
                refine l1 (mvb rfl) ?_
                refine l1g rfl (gwf rfl) (fun h => fa fa37_2 rfl) ?_
                refine l1g rfl (gwf rfl) (fun h => lda 0 Try.isAgg32 Try.sizeOf32 rfl (gvt h) (encH_prev _) rfl) ?_
                refine l1g rfl (gwf rfl) (fun h => bld0 bk32z) ?_
                refine l1g rfl (gwf rfl) (fun h => eqla (gvt h) (gvt h) (fun w => eql32 _ _ w)) ?_
                refine l1 (pk_or rfl rfl rfl) ?_
                refine l1 (asgb rfl) ?_
                refine lnil ?_
                refine nthen ?_
                refine cret ?_
                exact fin1b rfl rfl (by first | rfl | (simp only [placedB, knowB, firstB, h1, h2, h3, h4, h5, h6, h7, cond_true, cond_false]; done))

theorem hformed_calls (x : Hd) (w : World) (hx : HdIn w x) (kx : HdOk x) : Calls Try.prog 76 #[.agg (encH x).toArray] w (Ret (.bool (formedH x)) w) := by
  refine fn_calls (n := 40) Try.func76 rfl rfl (lb rfl) ?_
  refine cseq ?_
  refine creg ?_
  refine lbxa rfl (fun b1 => ?_)
  refine l1 (asgb rfl) ?_
  refine lnil ?_
  refine nthen ?_
  refine cseq ?_
  refine cseq ?_
  refine creg ?_
  refine l1 (ldw 0 Try.isAgg37 Try.sizeOf37 rfl rfl rfl) ?_
  refine l1 (cl hb107 rfl (mc rfl mn) (fun w hw => placed_calls _ w)) ?_
  refine l1 (nt rfl) ?_
  refine l1 (mvb rfl) ?_
  refine l1g rfl (gwf rfl) (fun h => fa fa37_7 rfl) ?_
  refine l1g rfl (gwf rfl) (fun h => ldc 0 Try.isAgg35 rfl (gvt h) rfl) ?_
  refine l1g rfl (gwf rfl) (fun h => lens sl35 rfl (gvt h)) ?_
  refine l1g rfl (gwf rfl) (fun h => gtr (gvt h) rfl) ?_
  refine l1 (pk_or rfl rfl rfl) ?_
  refine l1 (mvb rfl) ?_
  refine l1g rfl (gwf rfl) (fun h => fa fa37_7 rfl) ?_
  refine l1g rfl (gwf rfl) (fun h => ldc 0 Try.isAgg35 rfl (gvt h) rfl) ?_
  refine l1g rfl (gwf rfl) (fun h => cl hb108 rfl (mc (gvt h) mn) (fun w hw => sorted_calls w _ _ _ _ kx.n (Sl.keptS hx hw) kx.tok)) ?_
  refine l1g rfl (gwf rfl) (fun h => nt (gvt h)) ?_
  refine l1 (pk_or rfl rfl rfl) ?_
  refine l1 (mvb rfl) ?_
  refine l1g rfl (gwf rfl) (fun h => fa fa37_10 rfl) ?_
  refine l1g rfl (gwf rfl) (fun h => ldc 0 Try.isAgg3 rfl (gvt h) rfl) ?_
  refine l1g rfl (gwf rfl) (fun h => sub (gvt h) rfl) ?_
  refine l1g rfl (gwf rfl) (fun h => cl hb109 rfl (mc (gvt h) mn) (fun w hw => isPad_calls _ w)) ?_
  refine l1g rfl (gwf rfl) (fun h => nt (gvt h)) ?_
  refine l1 (pk_or rfl rfl rfl) ?_
  refine lnil ?_
  refine nthen ?_
  refine cif rfl (fun h1 => ?_) (fun h1 => ?_)
  · skip
    refine cseq ?_
    refine creg ?_
    refine l1 (asgb rfl) ?_
    refine lnil ?_
    refine nthen ?_
    refine cret ?_
    refine nthenR ?_
    exact fin1b rfl rfl (by first | rfl | (simp only [formedH, plainB, h1, cond_true, cond_false]; done))
  · skip
    refine cskip ?_
    refine nthen ?_
    refine cseq ?_
    refine creg ?_
    refine l1 (fa fa37_4 rfl) ?_
    refine l1 (ldc 0 Try.isAgg4 rfl rfl rfl) ?_
    refine l1 (nt rfl) ?_
    refine l1 (mvb rfl) ?_
    refine l1g rfl (gwf rfl) (fun h => fa fa37_7 rfl) ?_
    refine l1g rfl (gwf rfl) (fun h => ldc 0 Try.isAgg35 rfl (gvt h) rfl) ?_
    refine l1g rfl (gwf rfl) (fun h => lens sl35 rfl (gvt h)) ?_
    refine l1g rfl (gwf rfl) (fun h => eql (gvt h) rfl) ?_
    refine l1g rfl (gwf rfl) (fun h => mvb (gvt h)) ?_
    refine l1g rfl (ggt rfl) (fun h => fa fa37_6 rfl) ?_
    refine l1g rfl (ggt rfl) (fun h => lda 0 Try.isAgg34 Try.sizeOf34 rfl (gvt h) (encH_item _) rfl) ?_
    refine l1g rfl (ggt rfl) (fun h => bld0 bk34z) ?_
    refine l1g rfl (ggt rfl) (fun h => eqla (gvt h) (gvt h) (fun w => eql34 _ _ w)) ?_
    refine l1g rfl (gwf rfl) (fun h => pk_and (gvt h) (gva h) rfl) ?_
    refine l1 (pk_or rfl rfl rfl) ?_
    refine l1 (asgb rfl) ?_
    refine lnil ?_
    refine nthen ?_
    refine cret ?_
    exact fin1b rfl rfl (by first | rfl | (simp only [formedH, plainB, h1, cond_true, cond_false]; done))

theorem bk156 : ∀ w, (Instr.build 156 #[(0, .int .i64 64), (1, .int .i64 128), (2, .int .i64 256), (3, .int .i64 512), (4, .int .i64 1024), (5, .int .i64 2048)]).run Try.prog w = .ok (.agg [.int .i64 64, .int .i64 128, .int .i64 256, .int .i64 512, .int .i64 1024, .int .i64 2048].toArray) w := fun w => by kernel_rfl
def rbucketB (n : Int) : Int := bif decide (n < 64) then 64 else bif decide (n < 128) then 128 else bif decide (n < 256) then 256 else bif decide (n < 512) then 512 else bif decide (n < 1024) then 1024 else bif decide (n < 2048) then 2048 else 0

theorem rbucket_calls (n : Int) (w : World) : Calls Try.prog 111 #[.int .i64 n] w (Ret (.int .i64 (rbucketB n)) w) := by
  refine fn_calls (n := 18) Try.func111 rfl rfl (lb rfl) ?_
  refine cseq ?_
  refine creg ?_
  refine l1 (asgi rfl) ?_
  refine lnil ?_
  refine nthen ?_
  refine cseq ?_
  refine creg ?_
  refine l1 (bldk rfl bk156) ?_
  refine lal Try.zeroValue156 rfl (fun b1 => ?_)
  refine lstw 0 rfl rfl rfl Try.sizeOf156 rfl rfl rfl ?_
  refine lnil ?_
  refine nthen ?_
  refine cseq ?_
  refine cseq ?_
  refine creg ?_
  refine l1 (asgi rfl) ?_
  refine lnil ?_
  refine nthen ?_
  refine cblock ?_
  refine cloopN 7 ?_
  refine rsucc ?_
  refine cseq ?_
  refine cseq ?_
  refine creg ?_
  refine l1 (mvi rfl) ?_
  refine l1 (lss rfl rfl) ?_
  refine lnil ?_
  refine nthen ?_
  refine cift rfl ?_
  refine cskip ?_
  refine nthen ?_
  refine cseq ?_
  refine cblock ?_
  refine cseq ?_
  refine creg ?_
  refine l1 (mvi rfl) ?_
  refine l1 (mvi rfl) ?_
  refine l1 (ia ar156 rfl rfl (by decide) (by decide)) ?_
  refine l1 (ldc 0 Try.isAgg3 rfl rfl rfl) ?_
  refine l1 (lss rfl rfl) ?_
  refine lnil ?_
  refine nthen ?_
  refine cif rfl (fun h1 => ?_) (fun h1 => ?_)
  · skip
    refine cseq ?_
    refine creg ?_
    refine l1 (mvi rfl) ?_
    refine l1 (ia ar156 rfl rfl (by decide) (by decide)) ?_
    refine l1 (ldc 0 Try.isAgg3 rfl rfl rfl) ?_
    refine l1 (asgi rfl) ?_
    refine lnil ?_
    refine nthen ?_
    refine cret ?_
    refine nblkR ?_
    refine nthenR ?_
    refine nroundR ?_
    refine nblkR ?_
    refine nthenR ?_
    exact fin1i rfl rfl (by first | rfl | (simp only [rbucketB, h1, cond_true, cond_false]; done))
  · skip
    refine cskip ?_
    refine nblkN ?_
    refine nthen ?_
    refine creg ?_
    refine l1 (mvi rfl) ?_
    first | refine l1 (addn rfl rfl (ri (by omega) (by omega))) ?_ | refine l1 (add rfl rfl) ?_
    refine l1 (asgi rfl) ?_
    refine lnil ?_
    refine nround (rsucc ?_)
    refine cseq ?_
    refine cseq ?_
    refine creg ?_
    refine l1 (mvi rfl) ?_
    refine l1 (lss rfl rfl) ?_
    refine lnil ?_
    refine nthen ?_
    refine cift rfl ?_
    refine cskip ?_
    refine nthen ?_
    refine cseq ?_
    refine cblock ?_
    refine cseq ?_
    refine creg ?_
    refine l1 (mvi rfl) ?_
    refine l1 (mvi rfl) ?_
    refine l1 (ia ar156 rfl rfl (by decide) (by decide)) ?_
    refine l1 (ldc 0 Try.isAgg3 rfl rfl rfl) ?_
    refine l1 (lss rfl rfl) ?_
    refine lnil ?_
    refine nthen ?_
    refine cif rfl (fun h2 => ?_) (fun h2 => ?_)
    · skip
      refine cseq ?_
      refine creg ?_
      refine l1 (mvi rfl) ?_
      refine l1 (ia ar156 rfl rfl (by decide) (by decide)) ?_
      refine l1 (ldc 0 Try.isAgg3 rfl rfl rfl) ?_
      refine l1 (asgi rfl) ?_
      refine lnil ?_
      refine nthen ?_
      refine cret ?_
      refine nblkR ?_
      refine nthenR ?_
      refine nroundR ?_
      refine nblkR ?_
      refine nthenR ?_
      exact fin1i rfl rfl (by first | rfl | (simp only [rbucketB, h1, h2, cond_true, cond_false]; done))
    · skip
      refine cskip ?_
      refine nblkN ?_
      refine nthen ?_
      refine creg ?_
      refine l1 (mvi rfl) ?_
      first | refine l1 (addn rfl rfl (ri (by omega) (by omega))) ?_ | refine l1 (add rfl rfl) ?_
      refine l1 (asgi rfl) ?_
      refine lnil ?_
      refine nround (rsucc ?_)
      refine cseq ?_
      refine cseq ?_
      refine creg ?_
      refine l1 (mvi rfl) ?_
      refine l1 (lss rfl rfl) ?_
      refine lnil ?_
      refine nthen ?_
      refine cift rfl ?_
      refine cskip ?_
      refine nthen ?_
      refine cseq ?_
      refine cblock ?_
      refine cseq ?_
      refine creg ?_
      refine l1 (mvi rfl) ?_
      refine l1 (mvi rfl) ?_
      refine l1 (ia ar156 rfl rfl (by decide) (by decide)) ?_
      refine l1 (ldc 0 Try.isAgg3 rfl rfl rfl) ?_
      refine l1 (lss rfl rfl) ?_
      refine lnil ?_
      refine nthen ?_
      refine cif rfl (fun h3 => ?_) (fun h3 => ?_)
      · skip
        refine cseq ?_
        refine creg ?_
        refine l1 (mvi rfl) ?_
        refine l1 (ia ar156 rfl rfl (by decide) (by decide)) ?_
        refine l1 (ldc 0 Try.isAgg3 rfl rfl rfl) ?_
        refine l1 (asgi rfl) ?_
        refine lnil ?_
        refine nthen ?_
        refine cret ?_
        refine nblkR ?_
        refine nthenR ?_
        refine nroundR ?_
        refine nblkR ?_
        refine nthenR ?_
        exact fin1i rfl rfl (by first | rfl | (simp only [rbucketB, h1, h2, h3, cond_true, cond_false]; done))
      · skip
        refine cskip ?_
        refine nblkN ?_
        refine nthen ?_
        refine creg ?_
        refine l1 (mvi rfl) ?_
        first | refine l1 (addn rfl rfl (ri (by omega) (by omega))) ?_ | refine l1 (add rfl rfl) ?_
        refine l1 (asgi rfl) ?_
        refine lnil ?_
        refine nround (rsucc ?_)
        refine cseq ?_
        refine cseq ?_
        refine creg ?_
        refine l1 (mvi rfl) ?_
        refine l1 (lss rfl rfl) ?_
        refine lnil ?_
        refine nthen ?_
        refine cift rfl ?_
        refine cskip ?_
        refine nthen ?_
        refine cseq ?_
        refine cblock ?_
        refine cseq ?_
        refine creg ?_
        refine l1 (mvi rfl) ?_
        refine l1 (mvi rfl) ?_
        refine l1 (ia ar156 rfl rfl (by decide) (by decide)) ?_
        refine l1 (ldc 0 Try.isAgg3 rfl rfl rfl) ?_
        refine l1 (lss rfl rfl) ?_
        refine lnil ?_
        refine nthen ?_
        refine cif rfl (fun h4 => ?_) (fun h4 => ?_)
        · skip
          refine cseq ?_
          refine creg ?_
          refine l1 (mvi rfl) ?_
          refine l1 (ia ar156 rfl rfl (by decide) (by decide)) ?_
          refine l1 (ldc 0 Try.isAgg3 rfl rfl rfl) ?_
          refine l1 (asgi rfl) ?_
          refine lnil ?_
          refine nthen ?_
          refine cret ?_
          refine nblkR ?_
          refine nthenR ?_
          refine nroundR ?_
          refine nblkR ?_
          refine nthenR ?_
          exact fin1i rfl rfl (by first | rfl | (simp only [rbucketB, h1, h2, h3, h4, cond_true, cond_false]; done))
        · skip
          refine cskip ?_
          refine nblkN ?_
          refine nthen ?_
          refine creg ?_
          refine l1 (mvi rfl) ?_
          first | refine l1 (addn rfl rfl (ri (by omega) (by omega))) ?_ | refine l1 (add rfl rfl) ?_
          refine l1 (asgi rfl) ?_
          refine lnil ?_
          refine nround (rsucc ?_)
          refine cseq ?_
          refine cseq ?_
          refine creg ?_
          refine l1 (mvi rfl) ?_
          refine l1 (lss rfl rfl) ?_
          refine lnil ?_
          refine nthen ?_
          refine cift rfl ?_
          refine cskip ?_
          refine nthen ?_
          refine cseq ?_
          refine cblock ?_
          refine cseq ?_
          refine creg ?_
          refine l1 (mvi rfl) ?_
          refine l1 (mvi rfl) ?_
          refine l1 (ia ar156 rfl rfl (by decide) (by decide)) ?_
          refine l1 (ldc 0 Try.isAgg3 rfl rfl rfl) ?_
          refine l1 (lss rfl rfl) ?_
          refine lnil ?_
          refine nthen ?_
          refine cif rfl (fun h5 => ?_) (fun h5 => ?_)
          · skip
            refine cseq ?_
            refine creg ?_
            refine l1 (mvi rfl) ?_
            refine l1 (ia ar156 rfl rfl (by decide) (by decide)) ?_
            refine l1 (ldc 0 Try.isAgg3 rfl rfl rfl) ?_
            refine l1 (asgi rfl) ?_
            refine lnil ?_
            refine nthen ?_
            refine cret ?_
            refine nblkR ?_
            refine nthenR ?_
            refine nroundR ?_
            refine nblkR ?_
            refine nthenR ?_
            exact fin1i rfl rfl (by first | rfl | (simp only [rbucketB, h1, h2, h3, h4, h5, cond_true, cond_false]; done))
          · skip
            refine cskip ?_
            refine nblkN ?_
            refine nthen ?_
            refine creg ?_
            refine l1 (mvi rfl) ?_
            first | refine l1 (addn rfl rfl (ri (by omega) (by omega))) ?_ | refine l1 (add rfl rfl) ?_
            refine l1 (asgi rfl) ?_
            refine lnil ?_
            refine nround (rsucc ?_)
            refine cseq ?_
            refine cseq ?_
            refine creg ?_
            refine l1 (mvi rfl) ?_
            refine l1 (lss rfl rfl) ?_
            refine lnil ?_
            refine nthen ?_
            refine cift rfl ?_
            refine cskip ?_
            refine nthen ?_
            refine cseq ?_
            refine cblock ?_
            refine cseq ?_
            refine creg ?_
            refine l1 (mvi rfl) ?_
            refine l1 (mvi rfl) ?_
            refine l1 (ia ar156 rfl rfl (by decide) (by decide)) ?_
            refine l1 (ldc 0 Try.isAgg3 rfl rfl rfl) ?_
            refine l1 (lss rfl rfl) ?_
            refine lnil ?_
            refine nthen ?_
            refine cif rfl (fun h6 => ?_) (fun h6 => ?_)
            · skip
              refine cseq ?_
              refine creg ?_
              refine l1 (mvi rfl) ?_
              refine l1 (ia ar156 rfl rfl (by decide) (by decide)) ?_
              refine l1 (ldc 0 Try.isAgg3 rfl rfl rfl) ?_
              refine l1 (asgi rfl) ?_
              refine lnil ?_
              refine nthen ?_
              refine cret ?_
              refine nblkR ?_
              refine nthenR ?_
              refine nroundR ?_
              refine nblkR ?_
              refine nthenR ?_
              exact fin1i rfl rfl (by first | rfl | (simp only [rbucketB, h1, h2, h3, h4, h5, h6, cond_true, cond_false]; done))
            · skip
              refine cskip ?_
              refine nblkN ?_
              refine nthen ?_
              refine creg ?_
              refine l1 (mvi rfl) ?_
              first | refine l1 (addn rfl rfl (ri (by omega) (by omega))) ?_ | refine l1 (add rfl rfl) ?_
              refine l1 (asgi rfl) ?_
              refine lnil ?_
              refine nround (rsucc ?_)
              refine cseq ?_
              refine cseq ?_
              refine creg ?_
              refine l1 (mvi rfl) ?_
              refine l1 (lss rfl rfl) ?_
              refine lnil ?_
              refine nthen ?_
              refine ciff rfl ?_
              refine cexit ?_
              refine nthenE ?_
              refine nroundE ?_
              refine nblkE ?_
              refine nthen ?_
              refine cseq ?_
              refine creg ?_
              refine l1 (asgi rfl) ?_
              refine lnil ?_
              refine nthen ?_
              refine cret ?_
              exact fin1i rfl rfl (by first | rfl | (simp only [rbucketB, h1, h2, h3, h4, h5, h6, cond_true, cond_false]; done))

def rplcB (x : Hd) : Bool := ((((((((decide (x.writer < 1) || decide (x.writer > 6)) || decide (x.seq < 1)) || decide (x.seq > 1048576)) || decide (x.epoch < 0)) || decide (x.epoch > 255)) || decide (x.time > 1099511627776)) || decide ((x.tn : Int) > 8)) || !sortedT x.tn x.tok)
def rsizeB (x : Hd) : Bool := (decide (x.size ≥ 80) && decide (x.size ≤ 2064)) && decide (rbucketB (x.size - 17) = x.size - 16)
def rformedH (x : Hd) : Bool := bif rplcB x then false else knowB x.knows (((rsizeB x && firstB x) && plainB x) && decide (x.knows (x.writer - 1).toNat = x.seq - 1))
theorem rplc_no {x : Hd} (h : rplcB x = false) : 1 ≤ x.writer ∧ x.writer ≤ 6 ∧ 1 ≤ x.seq ∧ x.seq ≤ 1048576 := by
  simp [rplcB] at h; omega

set_option maxHeartbeats 1000000 in
theorem rformed_calls (x : Hd) (w : World) (hx : HdIn w x) (kx : HdOk x) : Calls Try.prog 77 #[.agg (encH x).toArray] w (Ret (.bool (rformedH x)) w) := by
  refine fn_calls (n := 122) Try.func77 rfl rfl (lb rfl) ?_
  refine cseq ?_
  refine creg ?_
  refine lbxa rfl (fun b1 => ?_)
  refine l1 (asgb rfl) ?_
  refine lnil ?_
  refine nthen ?_
  refine cseq ?_
  refine cseq ?_
  refine creg ?_
  refine l1 (fa fa37_0 rfl) ?_
  refine l1 (ldc 0 Try.isAgg3 rfl rfl rfl) ?_
  refine l1 (lss rfl rfl) ?_
  refine l1 (mvb rfl) ?_
  refine l1g rfl (gwf rfl) (fun h => fa fa37_0 rfl) ?_
  refine l1g rfl (gwf rfl) (fun h => ldc 0 Try.isAgg3 rfl (gvt h) rfl) ?_
  refine l1g rfl (gwf rfl) (fun h => gtr (gvt h) rfl) ?_
  refine l1 (pk_or rfl rfl rfl) ?_
  refine l1 (mvb rfl) ?_
  refine l1g rfl (gwf rfl) (fun h => fa fa37_1 rfl) ?_
  refine l1g rfl (gwf rfl) (fun h => ldc 0 Try.isAgg22 rfl (gvt h) rfl) ?_
  refine l1g rfl (gwf rfl) (fun h => lss (gvt h) rfl) ?_
  refine l1 (pk_or rfl rfl rfl) ?_
  refine l1 (mvb rfl) ?_
  refine l1g rfl (gwf rfl) (fun h => fa fa37_1 rfl) ?_
  refine l1g rfl (gwf rfl) (fun h => ldc 0 Try.isAgg22 rfl (gvt h) rfl) ?_
  refine l1g rfl (gwf rfl) (fun h => gtr (gvt h) rfl) ?_
  refine l1 (pk_or rfl rfl rfl) ?_
  refine l1 (mvb rfl) ?_
  refine l1g rfl (gwf rfl) (fun h => fa fa37_3 rfl) ?_
  refine l1g rfl (gwf rfl) (fun h => ldc 0 Try.isAgg3 rfl (gvt h) rfl) ?_
  refine l1g rfl (gwf rfl) (fun h => lss (gvt h) rfl) ?_
  refine l1 (pk_or rfl rfl rfl) ?_
  refine l1 (mvb rfl) ?_
  refine l1g rfl (gwf rfl) (fun h => fa fa37_3 rfl) ?_
  refine l1g rfl (gwf rfl) (fun h => ldc 0 Try.isAgg3 rfl (gvt h) rfl) ?_
  refine l1g rfl (gwf rfl) (fun h => gtr (gvt h) rfl) ?_
  refine l1 (pk_or rfl rfl rfl) ?_
  refine l1 (mvb rfl) ?_
  refine l1g rfl (gwf rfl) (fun h => fa fa37_5 rfl) ?_
  refine l1g rfl (gwf rfl) (fun h => ldc 0 Try.isAgg22 rfl (gvt h) rfl) ?_
  refine l1g rfl (gwf rfl) (fun h => gtr (gvt h) rfl) ?_
  refine l1 (pk_or rfl rfl rfl) ?_
  refine l1 (mvb rfl) ?_
  refine l1g rfl (gwf rfl) (fun h => fa fa37_7 rfl) ?_
  refine l1g rfl (gwf rfl) (fun h => ldc 0 Try.isAgg35 rfl (gvt h) rfl) ?_
  refine l1g rfl (gwf rfl) (fun h => lens sl35 rfl (gvt h)) ?_
  refine l1g rfl (gwf rfl) (fun h => gtr (gvt h) rfl) ?_
  refine l1 (pk_or rfl rfl rfl) ?_
  refine l1 (mvb rfl) ?_
  refine l1g rfl (gwf rfl) (fun h => fa fa37_7 rfl) ?_
  refine l1g rfl (gwf rfl) (fun h => ldc 0 Try.isAgg35 rfl (gvt h) rfl) ?_
  refine l1g rfl (gwf rfl) (fun h => cl hb110 rfl (mc (gvt h) mn) (fun w hw => rsorted_calls w _ _ _ _ kx.n (Sl.keptS hx hw) kx.tok)) ?_
  refine l1g rfl (gwf rfl) (fun h => nt (gvt h)) ?_
  refine l1 (pk_or rfl rfl rfl) ?_
  refine lnil ?_
  refine nthen ?_
  refine cif rfl (fun h1 => ?_) (fun h1 => ?_)
  · change rplcB x = _ at h1
    refine cseq ?_
    refine creg ?_
    refine l1 (asgb rfl) ?_
    refine lnil ?_
    refine nthen ?_
    refine cret ?_
    refine nthenR ?_
    exact fin1b rfl rfl (by first | rfl | (simp only [rformedH, knowB, rsizeB, firstB, plainB, h1, cond_true, cond_false]; done))
  · change rplcB x = _ at h1
    have hw6 := rplc_no h1
    refine cskip ?_
    refine nthen ?_
    refine cseq ?_
    refine cseq ?_
    refine creg ?_
    refine l1 (asgi rfl) ?_
    refine lnil ?_
    refine nthen ?_
    refine cblock ?_
    refine cloopN 7 ?_
    refine rsucc ?_
    refine cseq ?_
    refine cseq ?_
    refine creg ?_
    refine l1 (mvi rfl) ?_
    refine l1 (lss rfl rfl) ?_
    refine lnil ?_
    refine nthen ?_
    refine cift rfl ?_
    refine cskip ?_
    refine nthen ?_
    refine cseq ?_
    refine cblock ?_
    refine cseq ?_
    refine creg ?_
    refine l1 (mvi rfl) ?_
    refine l1 (fa fa37_8 rfl) ?_
    refine l1 (ia ar23 rfl rfl (by decide) (by decide)) ?_
    refine l1 (ldc 0 Try.isAgg22 rfl rfl rfl) ?_
    refine l1 (gtr rfl rfl) ?_
    refine lnil ?_
    refine nthen ?_
    refine cif rfl (fun h2 => ?_) (fun h2 => ?_)
    · skip
      refine cseq ?_
      refine creg ?_
      refine l1 (asgb rfl) ?_
      refine lnil ?_
      refine nthen ?_
      refine cret ?_
      refine nblkR ?_
      refine nthenR ?_
      refine nroundR ?_
      refine nblkR ?_
      refine nthenR ?_
      exact fin1b rfl rfl (by first | rfl | (simp only [rformedH, knowB, rsizeB, firstB, plainB, h1, h2, cond_true, cond_false]; done))
    · skip
      refine cskip ?_
      refine nblkN ?_
      refine nthen ?_
      refine creg ?_
      refine l1 (mvi rfl) ?_
      first | refine l1 (addn rfl rfl (ri (by omega) (by omega))) ?_ | refine l1 (add rfl rfl) ?_
      refine l1 (asgi rfl) ?_
      refine lnil ?_
      refine nround (rsucc ?_)
      refine cseq ?_
      refine cseq ?_
      refine creg ?_
      refine l1 (mvi rfl) ?_
      refine l1 (lss rfl rfl) ?_
      refine lnil ?_
      refine nthen ?_
      refine cift rfl ?_
      refine cskip ?_
      refine nthen ?_
      refine cseq ?_
      refine cblock ?_
      refine cseq ?_
      refine creg ?_
      refine l1 (mvi rfl) ?_
      refine l1 (fa fa37_8 rfl) ?_
      refine l1 (ia ar23 rfl rfl (by decide) (by decide)) ?_
      refine l1 (ldc 0 Try.isAgg22 rfl rfl rfl) ?_
      refine l1 (gtr rfl rfl) ?_
      refine lnil ?_
      refine nthen ?_
      refine cif rfl (fun h3 => ?_) (fun h3 => ?_)
      · skip
        refine cseq ?_
        refine creg ?_
        refine l1 (asgb rfl) ?_
        refine lnil ?_
        refine nthen ?_
        refine cret ?_
        refine nblkR ?_
        refine nthenR ?_
        refine nroundR ?_
        refine nblkR ?_
        refine nthenR ?_
        exact fin1b rfl rfl (by first | rfl | (simp only [rformedH, knowB, rsizeB, firstB, plainB, h1, h2, h3, cond_true, cond_false]; done))
      · skip
        refine cskip ?_
        refine nblkN ?_
        refine nthen ?_
        refine creg ?_
        refine l1 (mvi rfl) ?_
        first | refine l1 (addn rfl rfl (ri (by omega) (by omega))) ?_ | refine l1 (add rfl rfl) ?_
        refine l1 (asgi rfl) ?_
        refine lnil ?_
        refine nround (rsucc ?_)
        refine cseq ?_
        refine cseq ?_
        refine creg ?_
        refine l1 (mvi rfl) ?_
        refine l1 (lss rfl rfl) ?_
        refine lnil ?_
        refine nthen ?_
        refine cift rfl ?_
        refine cskip ?_
        refine nthen ?_
        refine cseq ?_
        refine cblock ?_
        refine cseq ?_
        refine creg ?_
        refine l1 (mvi rfl) ?_
        refine l1 (fa fa37_8 rfl) ?_
        refine l1 (ia ar23 rfl rfl (by decide) (by decide)) ?_
        refine l1 (ldc 0 Try.isAgg22 rfl rfl rfl) ?_
        refine l1 (gtr rfl rfl) ?_
        refine lnil ?_
        refine nthen ?_
        refine cif rfl (fun h4 => ?_) (fun h4 => ?_)
        · skip
          refine cseq ?_
          refine creg ?_
          refine l1 (asgb rfl) ?_
          refine lnil ?_
          refine nthen ?_
          refine cret ?_
          refine nblkR ?_
          refine nthenR ?_
          refine nroundR ?_
          refine nblkR ?_
          refine nthenR ?_
          exact fin1b rfl rfl (by first | rfl | (simp only [rformedH, knowB, rsizeB, firstB, plainB, h1, h2, h3, h4, cond_true, cond_false]; done))
        · skip
          refine cskip ?_
          refine nblkN ?_
          refine nthen ?_
          refine creg ?_
          refine l1 (mvi rfl) ?_
          first | refine l1 (addn rfl rfl (ri (by omega) (by omega))) ?_ | refine l1 (add rfl rfl) ?_
          refine l1 (asgi rfl) ?_
          refine lnil ?_
          refine nround (rsucc ?_)
          refine cseq ?_
          refine cseq ?_
          refine creg ?_
          refine l1 (mvi rfl) ?_
          refine l1 (lss rfl rfl) ?_
          refine lnil ?_
          refine nthen ?_
          refine cift rfl ?_
          refine cskip ?_
          refine nthen ?_
          refine cseq ?_
          refine cblock ?_
          refine cseq ?_
          refine creg ?_
          refine l1 (mvi rfl) ?_
          refine l1 (fa fa37_8 rfl) ?_
          refine l1 (ia ar23 rfl rfl (by decide) (by decide)) ?_
          refine l1 (ldc 0 Try.isAgg22 rfl rfl rfl) ?_
          refine l1 (gtr rfl rfl) ?_
          refine lnil ?_
          refine nthen ?_
          refine cif rfl (fun h5 => ?_) (fun h5 => ?_)
          · skip
            refine cseq ?_
            refine creg ?_
            refine l1 (asgb rfl) ?_
            refine lnil ?_
            refine nthen ?_
            refine cret ?_
            refine nblkR ?_
            refine nthenR ?_
            refine nroundR ?_
            refine nblkR ?_
            refine nthenR ?_
            exact fin1b rfl rfl (by first | rfl | (simp only [rformedH, knowB, rsizeB, firstB, plainB, h1, h2, h3, h4, h5, cond_true, cond_false]; done))
          · skip
            refine cskip ?_
            refine nblkN ?_
            refine nthen ?_
            refine creg ?_
            refine l1 (mvi rfl) ?_
            first | refine l1 (addn rfl rfl (ri (by omega) (by omega))) ?_ | refine l1 (add rfl rfl) ?_
            refine l1 (asgi rfl) ?_
            refine lnil ?_
            refine nround (rsucc ?_)
            refine cseq ?_
            refine cseq ?_
            refine creg ?_
            refine l1 (mvi rfl) ?_
            refine l1 (lss rfl rfl) ?_
            refine lnil ?_
            refine nthen ?_
            refine cift rfl ?_
            refine cskip ?_
            refine nthen ?_
            refine cseq ?_
            refine cblock ?_
            refine cseq ?_
            refine creg ?_
            refine l1 (mvi rfl) ?_
            refine l1 (fa fa37_8 rfl) ?_
            refine l1 (ia ar23 rfl rfl (by decide) (by decide)) ?_
            refine l1 (ldc 0 Try.isAgg22 rfl rfl rfl) ?_
            refine l1 (gtr rfl rfl) ?_
            refine lnil ?_
            refine nthen ?_
            refine cif rfl (fun h6 => ?_) (fun h6 => ?_)
            · skip
              refine cseq ?_
              refine creg ?_
              refine l1 (asgb rfl) ?_
              refine lnil ?_
              refine nthen ?_
              refine cret ?_
              refine nblkR ?_
              refine nthenR ?_
              refine nroundR ?_
              refine nblkR ?_
              refine nthenR ?_
              exact fin1b rfl rfl (by first | rfl | (simp only [rformedH, knowB, rsizeB, firstB, plainB, h1, h2, h3, h4, h5, h6, cond_true, cond_false]; done))
            · skip
              refine cskip ?_
              refine nblkN ?_
              refine nthen ?_
              refine creg ?_
              refine l1 (mvi rfl) ?_
              first | refine l1 (addn rfl rfl (ri (by omega) (by omega))) ?_ | refine l1 (add rfl rfl) ?_
              refine l1 (asgi rfl) ?_
              refine lnil ?_
              refine nround (rsucc ?_)
              refine cseq ?_
              refine cseq ?_
              refine creg ?_
              refine l1 (mvi rfl) ?_
              refine l1 (lss rfl rfl) ?_
              refine lnil ?_
              refine nthen ?_
              refine cift rfl ?_
              refine cskip ?_
              refine nthen ?_
              refine cseq ?_
              refine cblock ?_
              refine cseq ?_
              refine creg ?_
              refine l1 (mvi rfl) ?_
              refine l1 (fa fa37_8 rfl) ?_
              refine l1 (ia ar23 rfl rfl (by decide) (by decide)) ?_
              refine l1 (ldc 0 Try.isAgg22 rfl rfl rfl) ?_
              refine l1 (gtr rfl rfl) ?_
              refine lnil ?_
              refine nthen ?_
              refine cif rfl (fun h7 => ?_) (fun h7 => ?_)
              · skip
                refine cseq ?_
                refine creg ?_
                refine l1 (asgb rfl) ?_
                refine lnil ?_
                refine nthen ?_
                refine cret ?_
                refine nblkR ?_
                refine nthenR ?_
                refine nroundR ?_
                refine nblkR ?_
                refine nthenR ?_
                exact fin1b rfl rfl (by first | rfl | (simp only [rformedH, knowB, rsizeB, firstB, plainB, h1, h2, h3, h4, h5, h6, h7, cond_true, cond_false]; done))
              · skip
                refine cskip ?_
                refine nblkN ?_
                refine nthen ?_
                refine creg ?_
                refine l1 (mvi rfl) ?_
                first | refine l1 (addn rfl rfl (ri (by omega) (by omega))) ?_ | refine l1 (add rfl rfl) ?_
                refine l1 (asgi rfl) ?_
                refine lnil ?_
                refine nround (rsucc ?_)
                refine cseq ?_
                refine cseq ?_
                refine creg ?_
                refine l1 (mvi rfl) ?_
                refine l1 (lss rfl rfl) ?_
                refine lnil ?_
                refine nthen ?_
                refine ciff rfl ?_
                refine cexit ?_
                refine nthenE ?_
                refine nroundE ?_
                refine nblkE ?_
                refine nthen ?_
                refine cseq ?_
                refine cregq mo (by kernel_rfl) ?_
                refine q1 (fa fa37_10 rfl) ?_
                refine q1 (ldc 0 Try.isAgg3 rfl rfl rfl) ?_
                refine q1 (geq rfl rfl) ?_
                refine q1 (mvb rfl) ?_
                refine q1g rfl (gwt rfl) (fun h => fa fa37_10 rfl) ?_
                refine q1g rfl (gwt rfl) (fun h => ldc 0 Try.isAgg3 rfl (gvt h) rfl) ?_
                refine q1g rfl (gwt rfl) (fun h => leq (gvt h) rfl) ?_
                refine q1 (pk_and rfl rfl rfl) ?_
                refine q1 (mvb rfl) ?_
                refine q1g rfl (gwt rfl) (fun h => fa fa37_10 rfl) ?_
                refine q1g rfl (gwt rfl) (fun h => ldc 0 Try.isAgg3 rfl (gvt h) rfl) ?_
                refine q1g rfl (gwt rfl) (fun h => subn (gvt h) rfl (ri (by first | omega | (simp at h; omega)) (by first | omega | (simp at h; omega)))) ?_
                refine q1g rfl (gwt rfl) (fun h => cl hb111 rfl (mc (gvt h) mn) (fun w hw => rbucket_calls _ w)) ?_
                refine q1g rfl (gwt rfl) (fun h => fa fa37_10 rfl) ?_
                refine q1g rfl (gwt rfl) (fun h => ldc 0 Try.isAgg3 rfl (gvt h) rfl) ?_
                refine q1g rfl (gwt rfl) (fun h => subn (gvt h) rfl (ri (by first | omega | (simp at h; omega)) (by first | omega | (simp at h; omega)))) ?_
                refine q1g rfl (gwt rfl) (fun h => eql (gvt h) (gvt h)) ?_
                refine q1 (pk_and rfl rfl rfl) ?_
                refine q1 (asgb rfl) ?_
                refine qnil ?_
                refine nthen ?_
                refine cseq ?_
                refine creg ?_
                refine l1 (fa fa37_1 rfl) ?_
                refine l1 (ldc 0 Try.isAgg22 rfl rfl rfl) ?_
                refine l1 (gtr rfl rfl) ?_
                refine l1 (mvb rfl) ?_
                refine l1g rfl (gwf rfl) (fun h => fa fa37_2 rfl) ?_
                refine l1g rfl (gwf rfl) (fun h => lda 0 Try.isAgg32 Try.sizeOf32 rfl (gvt h) (encH_prev _) rfl) ?_
                refine l1g rfl (gwf rfl) (fun h => bld0 bk32z) ?_
                refine l1g rfl (gwf rfl) (fun h => eqla (gvt h) (gvt h) (fun w => eql32 _ _ w)) ?_
                refine l1 (pk_or rfl rfl rfl) ?_
                refine l1 (asgb rfl) ?_
                refine lnil ?_
                refine nthen ?_
                refine cseq ?_
                refine creg ?_
                refine l1 (fa fa37_4 rfl) ?_
                refine l1 (ldc 0 Try.isAgg4 rfl rfl rfl) ?_
                refine l1 (nt rfl) ?_
                refine l1 (mvb rfl) ?_
                refine l1g rfl (gwf rfl) (fun h => fa fa37_7 rfl) ?_
                refine l1g rfl (gwf rfl) (fun h => ldc 0 Try.isAgg35 rfl (gvt h) rfl) ?_
                refine l1g rfl (gwf rfl) (fun h => lens sl35 rfl (gvt h)) ?_
                refine l1g rfl (gwf rfl) (fun h => eql (gvt h) rfl) ?_
                refine l1g rfl (gwf rfl) (fun h => mvb (gvt h)) ?_
                refine l1g rfl (ggt rfl) (fun h => fa fa37_6 rfl) ?_
                refine l1g rfl (ggt rfl) (fun h => lda 0 Try.isAgg34 Try.sizeOf34 rfl (gvt h) (encH_item _) rfl) ?_
                refine l1g rfl (ggt rfl) (fun h => bld0 bk34z) ?_
                refine l1g rfl (ggt rfl) (fun h => eqla (gvt h) (gvt h) (fun w => eql34 _ _ w)) ?_
                refine l1g rfl (gwf rfl) (fun h => pk_and (gvt h) (gva h) rfl) ?_
                refine l1 (pk_or rfl rfl rfl) ?_
                refine l1 (asgb rfl) ?_
                refine lnil ?_
                refine nthen ?_
                refine cseq ?_
                refine cregq mo (by kernel_rfl) ?_
                refine q1 (mvb rfl) ?_
                refine q1 (mvb rfl) ?_
                refine q1g rfl (gwt rfl) (fun h => mvb rfl) ?_
                refine q1 (pk_and rfl rfl rfl) ?_
                refine q1 (mvb rfl) ?_
                refine q1g rfl (gwt rfl) (fun h => mvb rfl) ?_
                refine q1 (pk_and rfl rfl rfl) ?_
                refine q1 (mvb rfl) ?_
                refine q1g rfl (gwt rfl) (fun h => fa fa37_0 rfl) ?_
                refine q1g rfl (gwt rfl) (fun h => ldc 0 Try.isAgg3 rfl (gvt h) rfl) ?_
                refine q1g rfl (gwt rfl) (fun h => subn (gvt h) rfl (ri (by omega) (by omega))) ?_
                refine q1g rfl (gwt rfl) (fun h => fa fa37_8 rfl) ?_
                refine q1g rfl (gwt rfl) (fun h => ia ar23 (gvt h) (gvt h) (by omega) (by omega)) ?_
                refine q1g rfl (gwt rfl) (fun h => ldc 0 Try.isAgg22 rfl (gvt h) (encH_know _ _ (by omega))) ?_
                refine q1g rfl (gwt rfl) (fun h => fa fa37_1 rfl) ?_
                refine q1g rfl (gwt rfl) (fun h => ldc 0 Try.isAgg22 rfl (gvt h) rfl) ?_
                refine q1g rfl (gwt rfl) (fun h => subn (gvt h) rfl (ru (by omega) (by omega))) ?_
                refine q1g rfl (gwt rfl) (fun h => eql (gvt h) (gvt h)) ?_
                refine q1 (pk_and rfl rfl rfl) ?_
                refine q1 (asgb rfl) ?_
                refine qnil ?_
                refine nthen ?_
                refine cret ?_
                exact fin1b rfl rfl (by first | rfl | (simp only [rformedH, knowB, rsizeB, firstB, plainB, h1, h2, h3, h4, h5, h6, h7, cond_true, cond_false]; done))
end Go.Proofs.Ytkdbjhlkahkobaa
