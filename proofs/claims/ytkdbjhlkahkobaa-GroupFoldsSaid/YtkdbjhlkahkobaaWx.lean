/- walks, printed by a program of ours -/
import Derived.Test.YtkdbjhlkahkobaaTy
import Derived.Test.YtkdbjhlkahkobaaDef
import Derived.Test.YtkdbjhlkahkobaaCtl
import Derived.Test.YtkdbjhlkahkobaaWo
namespace Go.Proofs.Ytkdbjhlkahkobaa
open Jal Go.RowKit
set_option maxRecDepth 100000
theorem slot_calls (p : Option Addr) (n c : Nat) (must : Bool) (w : World) : Calls Try.prog 112 #[.slice p n c, .bool must] w (Ret (.bool (slotB n must)) w) := by
  refine fn_calls (n := 17) Try.func112 rfl rfl (lb rfl) ?_
  refine cseq ?_
  refine creg ?_
  refine l1 (asgb rfl) ?_
  refine lnil ?_
  refine nthen ?_
  refine cseq ?_
  refine creg ?_
  refine l1 (mvs rfl) ?_
  refine l1 (lens sl56 rfl rfl) ?_
  refine l1 (eql rfl rfl) ?_
  refine l1 (mvb rfl) ?_
  refine l1g rfl (gwf rfl) (fun h => mvb rfl) ?_
  refine l1g rfl (gwf rfl) (fun h => nt (gvt h)) ?_
  refine l1g rfl (gwf rfl) (fun h => mvb (gvt h)) ?_
  refine l1g rfl (ggt rfl) (fun h => mvs rfl) ?_
  refine l1g rfl (ggt rfl) (fun h => lens sl56 rfl (gvt h)) ?_
  refine l1g rfl (ggt rfl) (fun h => eql (gvt h) rfl) ?_
  refine l1g rfl (gwf rfl) (fun h => pk_and (gvt h) (gva h) rfl) ?_
  refine l1 (pk_or rfl rfl rfl) ?_
  refine l1 (asgb rfl) ?_
  refine lnil ?_
  refine nthen ?_
  refine cret ?_
  exact fin1 rfl rfl

theorem cformed_calls (x : Ct) (w : World) : Calls Try.prog 78 #[.agg (encC x).toArray] w (Ret (.bool (cformedB x)) w) := by
  refine fn_calls (n := 103) Try.func78 rfl rfl (lb rfl) ?_
  refine cseq ?_
  refine creg ?_
  refine lbxa rfl (fun b1 => ?_)
  refine l1 (asgb rfl) ?_
  refine lnil ?_
  refine nthen ?_
  refine cseq ?_
  refine creg ?_
  refine l1 (asgb rfl) ?_
  refine lnil ?_
  refine nthen ?_
  refine cseq ?_
  refine cseq ?_
  refine creg ?_
  refine l1 (fa fa59_3 rfl) ?_
  refine l1 (lda 0 Try.isAgg57 Try.sizeOf57 rfl rfl (encC_slots _) rfl) ?_
  refine l1 (mvi rfl) ?_
  refine lnil ?_
  refine nthen ?_
  refine cblock ?_
  refine cloopN 7 ?_
  refine rsucc ?_
  refine cseq ?_
  refine creg ?_
  refine l1 (lss rfl rfl) ?_
  refine lnil ?_
  refine nthen ?_
  refine cseq ?_
  refine cift rfl ?_
  refine cskip ?_
  refine nthen ?_
  refine cseq ?_
  refine cblock ?_
  refine cseq ?_
  refine creg ?_
  refine l1 (ixv Try.underlying57 Try.sizeOf56 Try.isAgg56 rfl rfl (by decide) (by decide) rfl) ?_
  refine l1 (asgs rfl) ?_
  refine lnil ?_
  refine nthen ?_
  refine cseq ?_
  refine cseq ?_
  refine creg ?_
  refine l1 (mvs rfl) ?_
  refine l1 (cl hb112 rfl (mc rfl (mc rfl mn)) (fun w hw => slot_calls _ _ _ _ w)) ?_
  refine l1 (nt rfl) ?_
  refine lnil ?_
  refine nthen ?_
  refine cif rfl (fun h1 => ?_) (fun h1 => ?_)
  · skip
    refine cseq ?_
    refine creg ?_
    refine l1 (asgb rfl) ?_
    refine lnil ?_
    refine nthen ?_
    refine cret ?_
    refine nthenR ?_
    refine nblkR ?_
    refine nthenR ?_
    refine nroundR ?_
    refine nblkR ?_
    refine nthenR ?_
    exact fin1b rfl rfl (by first | rfl | (simp only [cformedB, slotsB, h1, cond_true, cond_false]; done) | (simp only [cformedB, slotsB, h1, cond_true, cond_false]; rfl))
  · skip
    refine cskip ?_
    refine nthen ?_
    refine creg ?_
    refine l1 (mvb rfl) ?_
    refine l1 (mvb rfl) ?_
    refine l1g rfl (gwf rfl) (fun h => mvs rfl) ?_
    refine l1g rfl (gwf rfl) (fun h => lens sl56 rfl (gvt h)) ?_
    refine l1g rfl (gwf rfl) (fun h => gtr (gvt h) rfl) ?_
    refine l1 (pk_or rfl rfl rfl) ?_
    refine l1 (asgb rfl) ?_
    refine lnil ?_
    refine nblkN ?_
    refine nthen ?_
    refine creg ?_
    first | refine l1 (addn rfl rfl (ri (by omega) (by omega))) ?_ | refine l1 (add rfl rfl) ?_
    refine l1 (mvi rfl) ?_
    refine lnil ?_
    refine nround (rsucc ?_)
    refine cseq ?_
    refine creg ?_
    refine l1 (lss rfl rfl) ?_
    refine lnil ?_
    refine nthen ?_
    refine cseq ?_
    refine cift rfl ?_
    refine cskip ?_
    refine nthen ?_
    refine cseq ?_
    refine cblock ?_
    refine cseq ?_
    refine creg ?_
    refine l1 (ixv Try.underlying57 Try.sizeOf56 Try.isAgg56 rfl rfl (by decide) (by decide) rfl) ?_
    refine l1 (asgs rfl) ?_
    refine lnil ?_
    refine nthen ?_
    refine cseq ?_
    refine cseq ?_
    refine creg ?_
    refine l1 (mvs rfl) ?_
    refine l1 (cl hb112 rfl (mc rfl (mc rfl mn)) (fun w hw => slot_calls _ _ _ _ w)) ?_
    refine l1 (nt rfl) ?_
    refine lnil ?_
    refine nthen ?_
    refine cif rfl (fun h2 => ?_) (fun h2 => ?_)
    · skip
      refine cseq ?_
      refine creg ?_
      refine l1 (asgb rfl) ?_
      refine lnil ?_
      refine nthen ?_
      refine cret ?_
      refine nthenR ?_
      refine nblkR ?_
      refine nthenR ?_
      refine nroundR ?_
      refine nblkR ?_
      refine nthenR ?_
      exact fin1b rfl rfl (by first | rfl | (simp only [cformedB, slotsB, h1, h2, cond_true, cond_false]; done) | (simp only [cformedB, slotsB, h1, h2, cond_true, cond_false]; rfl))
    · skip
      refine cskip ?_
      refine nthen ?_
      refine creg ?_
      refine l1 (mvb rfl) ?_
      refine l1 (mvb rfl) ?_
      refine l1g rfl (gwf rfl) (fun h => mvs rfl) ?_
      refine l1g rfl (gwf rfl) (fun h => lens sl56 rfl (gvt h)) ?_
      refine l1g rfl (gwf rfl) (fun h => gtr (gvt h) rfl) ?_
      refine l1 (pk_or rfl rfl rfl) ?_
      refine l1 (asgb rfl) ?_
      refine lnil ?_
      refine nblkN ?_
      refine nthen ?_
      refine creg ?_
      first | refine l1 (addn rfl rfl (ri (by omega) (by omega))) ?_ | refine l1 (add rfl rfl) ?_
      refine l1 (mvi rfl) ?_
      refine lnil ?_
      refine nround (rsucc ?_)
      refine cseq ?_
      refine creg ?_
      refine l1 (lss rfl rfl) ?_
      refine lnil ?_
      refine nthen ?_
      refine cseq ?_
      refine cift rfl ?_
      refine cskip ?_
      refine nthen ?_
      refine cseq ?_
      refine cblock ?_
      refine cseq ?_
      refine creg ?_
      refine l1 (ixv Try.underlying57 Try.sizeOf56 Try.isAgg56 rfl rfl (by decide) (by decide) rfl) ?_
      refine l1 (asgs rfl) ?_
      refine lnil ?_
      refine nthen ?_
      refine cseq ?_
      refine cseq ?_
      refine creg ?_
      refine l1 (mvs rfl) ?_
      refine l1 (cl hb112 rfl (mc rfl (mc rfl mn)) (fun w hw => slot_calls _ _ _ _ w)) ?_
      refine l1 (nt rfl) ?_
      refine lnil ?_
      refine nthen ?_
      refine cif rfl (fun h3 => ?_) (fun h3 => ?_)
      · skip
        refine cseq ?_
        refine creg ?_
        refine l1 (asgb rfl) ?_
        refine lnil ?_
        refine nthen ?_
        refine cret ?_
        refine nthenR ?_
        refine nblkR ?_
        refine nthenR ?_
        refine nroundR ?_
        refine nblkR ?_
        refine nthenR ?_
        exact fin1b rfl rfl (by first | rfl | (simp only [cformedB, slotsB, h1, h2, h3, cond_true, cond_false]; done) | (simp only [cformedB, slotsB, h1, h2, h3, cond_true, cond_false]; rfl))
      · skip
        refine cskip ?_
        refine nthen ?_
        refine creg ?_
        refine l1 (mvb rfl) ?_
        refine l1 (mvb rfl) ?_
        refine l1g rfl (gwf rfl) (fun h => mvs rfl) ?_
        refine l1g rfl (gwf rfl) (fun h => lens sl56 rfl (gvt h)) ?_
        refine l1g rfl (gwf rfl) (fun h => gtr (gvt h) rfl) ?_
        refine l1 (pk_or rfl rfl rfl) ?_
        refine l1 (asgb rfl) ?_
        refine lnil ?_
        refine nblkN ?_
        refine nthen ?_
        refine creg ?_
        first | refine l1 (addn rfl rfl (ri (by omega) (by omega))) ?_ | refine l1 (add rfl rfl) ?_
        refine l1 (mvi rfl) ?_
        refine lnil ?_
        refine nround (rsucc ?_)
        refine cseq ?_
        refine creg ?_
        refine l1 (lss rfl rfl) ?_
        refine lnil ?_
        refine nthen ?_
        refine cseq ?_
        refine cift rfl ?_
        refine cskip ?_
        refine nthen ?_
        refine cseq ?_
        refine cblock ?_
        refine cseq ?_
        refine creg ?_
        refine l1 (ixv Try.underlying57 Try.sizeOf56 Try.isAgg56 rfl rfl (by decide) (by decide) rfl) ?_
        refine l1 (asgs rfl) ?_
        refine lnil ?_
        refine nthen ?_
        refine cseq ?_
        refine cseq ?_
        refine creg ?_
        refine l1 (mvs rfl) ?_
        refine l1 (cl hb112 rfl (mc rfl (mc rfl mn)) (fun w hw => slot_calls _ _ _ _ w)) ?_
        refine l1 (nt rfl) ?_
        refine lnil ?_
        refine nthen ?_
        refine cif rfl (fun h4 => ?_) (fun h4 => ?_)
        · skip
          refine cseq ?_
          refine creg ?_
          refine l1 (asgb rfl) ?_
          refine lnil ?_
          refine nthen ?_
          refine cret ?_
          refine nthenR ?_
          refine nblkR ?_
          refine nthenR ?_
          refine nroundR ?_
          refine nblkR ?_
          refine nthenR ?_
          exact fin1b rfl rfl (by first | rfl | (simp only [cformedB, slotsB, h1, h2, h3, h4, cond_true, cond_false]; done) | (simp only [cformedB, slotsB, h1, h2, h3, h4, cond_true, cond_false]; rfl))
        · skip
          refine cskip ?_
          refine nthen ?_
          refine creg ?_
          refine l1 (mvb rfl) ?_
          refine l1 (mvb rfl) ?_
          refine l1g rfl (gwf rfl) (fun h => mvs rfl) ?_
          refine l1g rfl (gwf rfl) (fun h => lens sl56 rfl (gvt h)) ?_
          refine l1g rfl (gwf rfl) (fun h => gtr (gvt h) rfl) ?_
          refine l1 (pk_or rfl rfl rfl) ?_
          refine l1 (asgb rfl) ?_
          refine lnil ?_
          refine nblkN ?_
          refine nthen ?_
          refine creg ?_
          first | refine l1 (addn rfl rfl (ri (by omega) (by omega))) ?_ | refine l1 (add rfl rfl) ?_
          refine l1 (mvi rfl) ?_
          refine lnil ?_
          refine nround (rsucc ?_)
          refine cseq ?_
          refine creg ?_
          refine l1 (lss rfl rfl) ?_
          refine lnil ?_
          refine nthen ?_
          refine cseq ?_
          refine cift rfl ?_
          refine cskip ?_
          refine nthen ?_
          refine cseq ?_
          refine cblock ?_
          refine cseq ?_
          refine creg ?_
          refine l1 (ixv Try.underlying57 Try.sizeOf56 Try.isAgg56 rfl rfl (by decide) (by decide) rfl) ?_
          refine l1 (asgs rfl) ?_
          refine lnil ?_
          refine nthen ?_
          refine cseq ?_
          refine cseq ?_
          refine creg ?_
          refine l1 (mvs rfl) ?_
          refine l1 (cl hb112 rfl (mc rfl (mc rfl mn)) (fun w hw => slot_calls _ _ _ _ w)) ?_
          refine l1 (nt rfl) ?_
          refine lnil ?_
          refine nthen ?_
          refine cif rfl (fun h5 => ?_) (fun h5 => ?_)
          · skip
            refine cseq ?_
            refine creg ?_
            refine l1 (asgb rfl) ?_
            refine lnil ?_
            refine nthen ?_
            refine cret ?_
            refine nthenR ?_
            refine nblkR ?_
            refine nthenR ?_
            refine nroundR ?_
            refine nblkR ?_
            refine nthenR ?_
            exact fin1b rfl rfl (by first | rfl | (simp only [cformedB, slotsB, h1, h2, h3, h4, h5, cond_true, cond_false]; done) | (simp only [cformedB, slotsB, h1, h2, h3, h4, h5, cond_true, cond_false]; rfl))
          · skip
            refine cskip ?_
            refine nthen ?_
            refine creg ?_
            refine l1 (mvb rfl) ?_
            refine l1 (mvb rfl) ?_
            refine l1g rfl (gwf rfl) (fun h => mvs rfl) ?_
            refine l1g rfl (gwf rfl) (fun h => lens sl56 rfl (gvt h)) ?_
            refine l1g rfl (gwf rfl) (fun h => gtr (gvt h) rfl) ?_
            refine l1 (pk_or rfl rfl rfl) ?_
            refine l1 (asgb rfl) ?_
            refine lnil ?_
            refine nblkN ?_
            refine nthen ?_
            refine creg ?_
            first | refine l1 (addn rfl rfl (ri (by omega) (by omega))) ?_ | refine l1 (add rfl rfl) ?_
            refine l1 (mvi rfl) ?_
            refine lnil ?_
            refine nround (rsucc ?_)
            refine cseq ?_
            refine creg ?_
            refine l1 (lss rfl rfl) ?_
            refine lnil ?_
            refine nthen ?_
            refine cseq ?_
            refine cift rfl ?_
            refine cskip ?_
            refine nthen ?_
            refine cseq ?_
            refine cblock ?_
            refine cseq ?_
            refine creg ?_
            refine l1 (ixv Try.underlying57 Try.sizeOf56 Try.isAgg56 rfl rfl (by decide) (by decide) rfl) ?_
            refine l1 (asgs rfl) ?_
            refine lnil ?_
            refine nthen ?_
            refine cseq ?_
            refine cseq ?_
            refine creg ?_
            refine l1 (mvs rfl) ?_
            refine l1 (cl hb112 rfl (mc rfl (mc rfl mn)) (fun w hw => slot_calls _ _ _ _ w)) ?_
            refine l1 (nt rfl) ?_
            refine lnil ?_
            refine nthen ?_
            refine cif rfl (fun h6 => ?_) (fun h6 => ?_)
            · skip
              refine cseq ?_
              refine creg ?_
              refine l1 (asgb rfl) ?_
              refine lnil ?_
              refine nthen ?_
              refine cret ?_
              refine nthenR ?_
              refine nblkR ?_
              refine nthenR ?_
              refine nroundR ?_
              refine nblkR ?_
              refine nthenR ?_
              exact fin1b rfl rfl (by first | rfl | (simp only [cformedB, slotsB, h1, h2, h3, h4, h5, h6, cond_true, cond_false]; done) | (simp only [cformedB, slotsB, h1, h2, h3, h4, h5, h6, cond_true, cond_false]; rfl))
            · skip
              refine cskip ?_
              refine nthen ?_
              refine creg ?_
              refine l1 (mvb rfl) ?_
              refine l1 (mvb rfl) ?_
              refine l1g rfl (gwf rfl) (fun h => mvs rfl) ?_
              refine l1g rfl (gwf rfl) (fun h => lens sl56 rfl (gvt h)) ?_
              refine l1g rfl (gwf rfl) (fun h => gtr (gvt h) rfl) ?_
              refine l1 (pk_or rfl rfl rfl) ?_
              refine l1 (asgb rfl) ?_
              refine lnil ?_
              refine nblkN ?_
              refine nthen ?_
              refine creg ?_
              first | refine l1 (addn rfl rfl (ri (by omega) (by omega))) ?_ | refine l1 (add rfl rfl) ?_
              refine l1 (mvi rfl) ?_
              refine lnil ?_
              refine nround (rsucc ?_)
              refine cseq ?_
              refine creg ?_
              refine l1 (lss rfl rfl) ?_
              refine lnil ?_
              refine nthen ?_
              refine cseq ?_
              refine ciff rfl ?_
              refine cexit ?_
              refine nthenE ?_
              refine nroundE ?_
              refine nblkE ?_
              refine nthen ?_
              refine cseq ?_
              refine creg ?_
              refine l1 (fa fa59_1 rfl) ?_
              refine l1 (ldc 0 Try.isAgg3 rfl rfl rfl) ?_
              refine l1 (geq rfl rfl) ?_
              refine l1 (mvb rfl) ?_
              refine l1g rfl (gwt rfl) (fun h => fa fa59_1 rfl) ?_
              refine l1g rfl (gwt rfl) (fun h => ldc 0 Try.isAgg3 rfl (gvt h) rfl) ?_
              refine l1g rfl (gwt rfl) (fun h => leq (gvt h) rfl) ?_
              refine l1 (pk_and rfl rfl rfl) ?_
              refine l1 (asgb rfl) ?_
              refine lnil ?_
              refine nthen ?_
              refine cseq ?_
              refine cseq ?_
              refine creg ?_
              refine l1 (fa fa59_0 rfl) ?_
              refine l1 (ldc 0 Try.isAgg3 rfl rfl rfl) ?_
              refine lnil ?_
              refine nthen ?_
              refine cblock ?_
              refine cseq ?_
              refine cseq ?_
              refine creg ?_
              refine l1 (eql rfl rfl) ?_
              refine l1 (asgb rfl) ?_
              refine lnil ?_
              refine nthen ?_
              refine cif rfl (fun h7 => ?_) (fun h7 => ?_)
              · skip
                refine cskip ?_
                refine nthen ?_
                refine cift (bt rfl h7) ?_
                refine cseq ?_
                refine creg ?_
                refine l1 (fa fa59_1 rfl) ?_
                refine l1 (ldc 0 Try.isAgg3 rfl rfl rfl) ?_
                refine l1 (eql rfl rfl) ?_
                refine l1 (mvb rfl) ?_
                refine l1g rfl (gwt rfl) (fun h => fa fa59_2 rfl) ?_
                refine l1g rfl (gwt rfl) (fun h => ldc 0 Try.isAgg22 rfl (gvt h) rfl) ?_
                refine l1g rfl (gwt rfl) (fun h => eql (gvt h) rfl) ?_
                refine l1 (pk_and rfl rfl rfl) ?_
                refine l1 (mvb rfl) ?_
                refine l1g rfl (gwt rfl) (fun h => mvb rfl) ?_
                refine l1 (pk_and rfl rfl rfl) ?_
                refine l1 (mvb rfl) ?_
                refine l1g rfl (gwt rfl) (fun h => fa fa59_4 rfl) ?_
                refine l1g rfl (gwt rfl) (fun h => ldc 0 Try.isAgg56 rfl (gvt h) rfl) ?_
                refine l1g rfl (gwt rfl) (fun h => lens sl56 rfl (gvt h)) ?_
                refine l1g rfl (gwt rfl) (fun h => eql (gvt h) rfl) ?_
                refine l1 (pk_and rfl rfl rfl) ?_
                refine l1 (asgb rfl) ?_
                refine lnil ?_
                refine nthen ?_
                refine cret ?_
                refine nblkR ?_
                refine nthenR ?_
                exact fin1b rfl rfl (by first | rfl | (simp only [cformedB, slotsB, h1, h2, h3, h4, h5, h6, h7, cond_true, cond_false]; done) | (simp only [cformedB, slotsB, h1, h2, h3, h4, h5, h6, h7, cond_true, cond_false]; rfl))
              · skip
                refine creg ?_
                refine l1 (eql rfl rfl) ?_
                refine l1 (asgb rfl) ?_
                refine lnil ?_
                refine nthen ?_
                refine cif rfl (fun h8 => ?_) (fun h8 => ?_)
                · skip
                  refine cseq ?_
                  refine creg ?_
                  refine l1 (fa fa59_1 rfl) ?_
                  refine l1 (ldc 0 Try.isAgg3 rfl rfl rfl) ?_
                  refine l1 (eql rfl rfl) ?_
                  refine l1 (mvb rfl) ?_
                  refine l1g rfl (gwt rfl) (fun h => fa fa59_2 rfl) ?_
                  refine l1g rfl (gwt rfl) (fun h => ldc 0 Try.isAgg22 rfl (gvt h) rfl) ?_
                  refine l1g rfl (gwt rfl) (fun h => eql (gvt h) rfl) ?_
                  refine l1 (pk_and rfl rfl rfl) ?_
                  refine l1 (mvb rfl) ?_
                  refine l1g rfl (gwt rfl) (fun h => mvb rfl) ?_
                  refine l1 (pk_and rfl rfl rfl) ?_
                  refine l1 (mvb rfl) ?_
                  refine l1g rfl (gwt rfl) (fun h => fa fa59_4 rfl) ?_
                  refine l1g rfl (gwt rfl) (fun h => ldc 0 Try.isAgg56 rfl (gvt h) rfl) ?_
                  refine l1g rfl (gwt rfl) (fun h => lens sl56 rfl (gvt h)) ?_
                  refine l1g rfl (gwt rfl) (fun h => eql (gvt h) rfl) ?_
                  refine l1 (pk_and rfl rfl rfl) ?_
                  refine l1 (asgb rfl) ?_
                  refine lnil ?_
                  refine nthen ?_
                  refine cret ?_
                  refine nblkR ?_
                  refine nthenR ?_
                  exact fin1b rfl rfl (by first | rfl | (simp only [cformedB, slotsB, h1, h2, h3, h4, h5, h6, h7, h8, cond_true, cond_false]; done) | (simp only [cformedB, slotsB, h1, h2, h3, h4, h5, h6, h7, h8, cond_true, cond_false]; rfl))
                · skip
                  refine cseq ?_
                  refine creg ?_
                  refine l1 (eql rfl rfl) ?_
                  refine l1 (asgb rfl) ?_
                  refine lnil ?_
                  refine nthen ?_
                  refine cif rfl (fun h9 => ?_) (fun h9 => ?_)
                  · skip
                    refine cseq ?_
                    refine creg ?_
                    refine l1 (mvb rfl) ?_
                    refine l1 (mvb rfl) ?_
                    refine l1g rfl (gwt rfl) (fun h => fa fa59_2 rfl) ?_
                    refine l1g rfl (gwt rfl) (fun h => ldc 0 Try.isAgg22 rfl (gvt h) rfl) ?_
                    refine l1g rfl (gwt rfl) (fun h => eql (gvt h) rfl) ?_
                    refine l1 (pk_and rfl rfl rfl) ?_
                    refine l1 (mvb rfl) ?_
                    refine l1g rfl (gwt rfl) (fun h => mvb rfl) ?_
                    refine l1 (pk_and rfl rfl rfl) ?_
                    refine l1 (mvb rfl) ?_
                    refine l1g rfl (gwt rfl) (fun h => fa fa59_4 rfl) ?_
                    refine l1g rfl (gwt rfl) (fun h => ldc 0 Try.isAgg56 rfl (gvt h) rfl) ?_
                    refine l1g rfl (gwt rfl) (fun h => lens sl56 rfl (gvt h)) ?_
                    refine l1g rfl (gwt rfl) (fun h => eql (gvt h) rfl) ?_
                    refine l1 (pk_and rfl rfl rfl) ?_
                    refine l1 (asgb rfl) ?_
                    refine lnil ?_
                    refine nthen ?_
                    refine cret ?_
                    refine nblkR ?_
                    refine nthenR ?_
                    exact fin1b rfl rfl (by first | rfl | (simp only [cformedB, slotsB, h1, h2, h3, h4, h5, h6, h7, h8, h9, cond_true, cond_false]; done) | (simp only [cformedB, slotsB, h1, h2, h3, h4, h5, h6, h7, h8, h9, cond_true, cond_false]; rfl))
                  · skip
                    refine cseq ?_
                    refine creg ?_
                    refine l1 (eql rfl rfl) ?_
                    refine l1 (asgb rfl) ?_
                    refine lnil ?_
                    refine nthen ?_
                    refine cif rfl (fun h10 => ?_) (fun h10 => ?_)
                    · skip
                      refine cseq ?_
                      refine creg ?_
                      refine l1 (mvb rfl) ?_
                      refine l1 (mvb rfl) ?_
                      refine l1g rfl (gwt rfl) (fun h => fa fa59_2 rfl) ?_
                      refine l1g rfl (gwt rfl) (fun h => ldc 0 Try.isAgg22 rfl (gvt h) rfl) ?_
                      refine l1g rfl (gwt rfl) (fun h => leq (gvt h) rfl) ?_
                      refine l1 (pk_and rfl rfl rfl) ?_
                      refine l1 (mvb rfl) ?_
                      refine l1g rfl (gwt rfl) (fun h => mvb rfl) ?_
                      refine l1 (pk_and rfl rfl rfl) ?_
                      refine l1 (mvb rfl) ?_
                      refine l1g rfl (gwt rfl) (fun h => fa fa59_4 rfl) ?_
                      refine l1g rfl (gwt rfl) (fun h => ldc 0 Try.isAgg56 rfl (gvt h) rfl) ?_
                      refine l1g rfl (gwt rfl) (fun h => lens sl56 rfl (gvt h)) ?_
                      refine l1g rfl (gwt rfl) (fun h => eql (gvt h) rfl) ?_
                      refine l1 (pk_and rfl rfl rfl) ?_
                      refine l1 (asgb rfl) ?_
                      refine lnil ?_
                      refine nthen ?_
                      refine cret ?_
                      refine nblkR ?_
                      refine nthenR ?_
                      exact fin1b rfl rfl (by first | rfl | (simp only [cformedB, slotsB, h1, h2, h3, h4, h5, h6, h7, h8, h9, h10, cond_true, cond_false]; done) | (simp only [cformedB, slotsB, h1, h2, h3, h4, h5, h6, h7, h8, h9, h10, cond_true, cond_false]; rfl))
                    · skip
                      refine cseq ?_
                      refine creg ?_
                      refine l1 (eql rfl rfl) ?_
                      refine l1 (asgb rfl) ?_
                      refine lnil ?_
                      refine nthen ?_
                      refine cif rfl (fun h11 => ?_) (fun h11 => ?_)
                      · skip
                        refine cseq ?_
                        refine creg ?_
                        refine l1 (mvb rfl) ?_
                        refine l1 (mvb rfl) ?_
                        refine l1g rfl (gwt rfl) (fun h => fa fa59_2 rfl) ?_
                        refine l1g rfl (gwt rfl) (fun h => ldc 0 Try.isAgg22 rfl (gvt h) rfl) ?_
                        refine l1g rfl (gwt rfl) (fun h => eql (gvt h) rfl) ?_
                        refine l1 (pk_and rfl rfl rfl) ?_
                        refine l1 (mvb rfl) ?_
                        refine l1g rfl (gwt rfl) (fun h => mvb rfl) ?_
                        refine l1g rfl (gwt rfl) (fun h => nt (gvt h)) ?_
                        refine l1 (pk_and rfl rfl rfl) ?_
                        refine l1 (mvb rfl) ?_
                        refine l1g rfl (gwt rfl) (fun h => fa fa59_4 rfl) ?_
                        refine l1g rfl (gwt rfl) (fun h => ldc 0 Try.isAgg56 rfl (gvt h) rfl) ?_
                        refine l1g rfl (gwt rfl) (fun h => cl hb112 rfl (mc (gvt h) (mc rfl mn)) (fun w hw => slot_calls _ _ _ _ w)) ?_
                        refine l1 (pk_and rfl rfl rfl) ?_
                        refine l1 (asgb rfl) ?_
                        refine lnil ?_
                        refine nthen ?_
                        refine cret ?_
                        refine nblkR ?_
                        refine nthenR ?_
                        exact fin1b rfl rfl (by first | rfl | (simp only [cformedB, slotsB, h1, h2, h3, h4, h5, h6, h7, h8, h9, h10, h11, cond_true, cond_false]; done) | (simp only [cformedB, slotsB, h1, h2, h3, h4, h5, h6, h7, h8, h9, h10, h11, cond_true, cond_false]; rfl))
                      · skip
                        refine cskip ?_
                        refine nblkN ?_
                        refine nthen ?_
                        refine cseq ?_
                        refine creg ?_
                        refine l1 (asgb rfl) ?_
                        refine lnil ?_
                        refine nthen ?_
                        refine cret ?_
                        exact fin1b rfl rfl (by first | rfl | (simp only [cformedB, slotsB, h1, h2, h3, h4, h5, h6, h7, h8, h9, h10, h11, cond_true, cond_false]; done) | (simp only [cformedB, slotsB, h1, h2, h3, h4, h5, h6, h7, h8, h9, h10, h11, cond_true, cond_false]; rfl))

set_option maxHeartbeats 1000000 in
theorem rcformed_calls (x : Ct) (w : World) : Calls Try.prog 79 #[.agg (encC x).toArray] w (Ret (.bool (rcformedB x)) w) := by
  refine fn_calls (n := 113) Try.func79 rfl rfl (lb rfl) ?_
  refine cseq ?_
  refine creg ?_
  refine lbxa rfl (fun b1 => ?_)
  refine l1 (asgb rfl) ?_
  refine lnil ?_
  refine nthen ?_
  refine cseq ?_
  refine creg ?_
  refine l1 (asgi rfl) ?_
  refine lnil ?_
  refine nthen ?_
  refine cseq ?_
  refine cseq ?_
  refine creg ?_
  refine l1 (asgi rfl) ?_
  refine lnil ?_
  refine nthen ?_
  refine cblock ?_
  refine cloopN 7 ?_
  refine rsucc ?_
  refine cseq ?_
  refine cseq ?_
  refine creg ?_
  refine l1 (mvi rfl) ?_
  refine l1 (lss rfl rfl) ?_
  refine lnil ?_
  refine nthen ?_
  refine cift rfl ?_
  refine cskip ?_
  refine nthen ?_
  refine cseq ?_
  refine cblock ?_
  refine cseq ?_
  refine cseq ?_
  refine creg ?_
  refine l1 (mvi rfl) ?_
  refine l1 (fa fa59_3 rfl) ?_
  refine l1 (ia ar57 rfl rfl (by decide) (by decide)) ?_
  refine l1 (ldc (v := .slice (x.slots 0).p (x.slots 0).n (x.slots 0).c) 0 Try.isAgg56 rfl rfl rfl) ?_
  refine l1 (lens sl56 rfl rfl) ?_
  refine l1 (neq rfl rfl) ?_
  refine l1 (mvb rfl) ?_
  refine l1g rfl (gwt rfl) (fun h => mvi rfl) ?_
  refine l1g rfl (gwt rfl) (fun h => fa fa59_3 rfl) ?_
  refine l1g rfl (gwt rfl) (fun h => ia ar57 (gvt h) (gvt h) (by decide) (by decide)) ?_
  refine l1g rfl (gwt rfl) (fun h => ldc (v := .slice (x.slots 0).p (x.slots 0).n (x.slots 0).c) 0 Try.isAgg56 rfl (gvt h) rfl) ?_
  refine l1g rfl (gwt rfl) (fun h => lens sl56 rfl (gvt h)) ?_
  refine l1g rfl (gwt rfl) (fun h => neq (gvt h) rfl) ?_
  refine l1 (pk_and rfl rfl rfl) ?_
  refine lnil ?_
  refine nthen ?_
  refine cif rfl (fun h1 => ?_) (fun h1 => ?_)
  · change rslotB (x.slots 0).n = _ at h1
    refine cseq ?_
    refine creg ?_
    refine l1 (asgb rfl) ?_
    refine lnil ?_
    refine nthen ?_
    refine cret ?_
    refine nthenR ?_
    refine nblkR ?_
    refine nthenR ?_
    refine nroundR ?_
    refine nblkR ?_
    refine nthenR ?_
    exact fin1b rfl rfl (by first | rfl | (simp only [rcformedB, rslotsB, h1, cond_true, cond_false]; done) | (simp only [rcformedB, rslotsB, h1, cond_true, cond_false]; rfl))
  · change rslotB (x.slots 0).n = _ at h1
    have : (x.slots 0).n = 0 ∨ (x.slots 0).n = 48 := by (simp [rslotB] at h1; omega)
    refine cskip ?_
    refine nthen ?_
    refine creg ?_
    refine l1 (mvi rfl) ?_
    refine l1 (mvi rfl) ?_
    refine l1 (fa fa59_3 rfl) ?_
    refine l1 (ia ar57 rfl rfl (by decide) (by decide)) ?_
    refine l1 (ldc (v := .slice (x.slots 0).p (x.slots 0).n (x.slots 0).c) 0 Try.isAgg56 rfl rfl rfl) ?_
    refine l1 (lens sl56 rfl rfl) ?_
    first | refine l1 (addn rfl rfl (ri (by omega) (by omega))) ?_ | refine l1 (add rfl rfl) ?_
    refine l1 (asgi rfl) ?_
    refine lnil ?_
    refine nblkN ?_
    refine nthen ?_
    refine creg ?_
    refine l1 (mvi rfl) ?_
    first | refine l1 (addn rfl rfl (ri (by omega) (by omega))) ?_ | refine l1 (add rfl rfl) ?_
    refine l1 (asgi rfl) ?_
    refine lnil ?_
    refine nround (rsucc ?_)
    refine cseq ?_
    refine cseq ?_
    refine creg ?_
    refine l1 (mvi rfl) ?_
    refine l1 (lss rfl rfl) ?_
    refine lnil ?_
    refine nthen ?_
    refine cift rfl ?_
    refine cskip ?_
    refine nthen ?_
    refine cseq ?_
    refine cblock ?_
    refine cseq ?_
    refine cseq ?_
    refine creg ?_
    refine l1 (mvi rfl) ?_
    refine l1 (fa fa59_3 rfl) ?_
    refine l1 (ia ar57 rfl rfl (by decide) (by decide)) ?_
    refine l1 (ldc (v := .slice (x.slots 1).p (x.slots 1).n (x.slots 1).c) 0 Try.isAgg56 rfl rfl rfl) ?_
    refine l1 (lens sl56 rfl rfl) ?_
    refine l1 (neq rfl rfl) ?_
    refine l1 (mvb rfl) ?_
    refine l1g rfl (gwt rfl) (fun h => mvi rfl) ?_
    refine l1g rfl (gwt rfl) (fun h => fa fa59_3 rfl) ?_
    refine l1g rfl (gwt rfl) (fun h => ia ar57 (gvt h) (gvt h) (by decide) (by decide)) ?_
    refine l1g rfl (gwt rfl) (fun h => ldc (v := .slice (x.slots 1).p (x.slots 1).n (x.slots 1).c) 0 Try.isAgg56 rfl (gvt h) rfl) ?_
    refine l1g rfl (gwt rfl) (fun h => lens sl56 rfl (gvt h)) ?_
    refine l1g rfl (gwt rfl) (fun h => neq (gvt h) rfl) ?_
    refine l1 (pk_and rfl rfl rfl) ?_
    refine lnil ?_
    refine nthen ?_
    refine cif rfl (fun h2 => ?_) (fun h2 => ?_)
    · change rslotB (x.slots 1).n = _ at h2
      refine cseq ?_
      refine creg ?_
      refine l1 (asgb rfl) ?_
      refine lnil ?_
      refine nthen ?_
      refine cret ?_
      refine nthenR ?_
      refine nblkR ?_
      refine nthenR ?_
      refine nroundR ?_
      refine nblkR ?_
      refine nthenR ?_
      exact fin1b rfl rfl (by first | rfl | (simp only [rcformedB, rslotsB, h1, h2, cond_true, cond_false]; done) | (simp only [rcformedB, rslotsB, h1, h2, cond_true, cond_false]; rfl))
    · change rslotB (x.slots 1).n = _ at h2
      have : (x.slots 1).n = 0 ∨ (x.slots 1).n = 48 := by (simp [rslotB] at h2; omega)
      refine cskip ?_
      refine nthen ?_
      refine creg ?_
      refine l1 (mvi rfl) ?_
      refine l1 (mvi rfl) ?_
      refine l1 (fa fa59_3 rfl) ?_
      refine l1 (ia ar57 rfl rfl (by decide) (by decide)) ?_
      refine l1 (ldc (v := .slice (x.slots 1).p (x.slots 1).n (x.slots 1).c) 0 Try.isAgg56 rfl rfl rfl) ?_
      refine l1 (lens sl56 rfl rfl) ?_
      first | refine l1 (addn rfl rfl (ri (by omega) (by omega))) ?_ | refine l1 (add rfl rfl) ?_
      refine l1 (asgi rfl) ?_
      refine lnil ?_
      refine nblkN ?_
      refine nthen ?_
      refine creg ?_
      refine l1 (mvi rfl) ?_
      first | refine l1 (addn rfl rfl (ri (by omega) (by omega))) ?_ | refine l1 (add rfl rfl) ?_
      refine l1 (asgi rfl) ?_
      refine lnil ?_
      refine nround (rsucc ?_)
      refine cseq ?_
      refine cseq ?_
      refine creg ?_
      refine l1 (mvi rfl) ?_
      refine l1 (lss rfl rfl) ?_
      refine lnil ?_
      refine nthen ?_
      refine cift rfl ?_
      refine cskip ?_
      refine nthen ?_
      refine cseq ?_
      refine cblock ?_
      refine cseq ?_
      refine cseq ?_
      refine creg ?_
      refine l1 (mvi rfl) ?_
      refine l1 (fa fa59_3 rfl) ?_
      refine l1 (ia ar57 rfl rfl (by decide) (by decide)) ?_
      refine l1 (ldc (v := .slice (x.slots 2).p (x.slots 2).n (x.slots 2).c) 0 Try.isAgg56 rfl rfl rfl) ?_
      refine l1 (lens sl56 rfl rfl) ?_
      refine l1 (neq rfl rfl) ?_
      refine l1 (mvb rfl) ?_
      refine l1g rfl (gwt rfl) (fun h => mvi rfl) ?_
      refine l1g rfl (gwt rfl) (fun h => fa fa59_3 rfl) ?_
      refine l1g rfl (gwt rfl) (fun h => ia ar57 (gvt h) (gvt h) (by decide) (by decide)) ?_
      refine l1g rfl (gwt rfl) (fun h => ldc (v := .slice (x.slots 2).p (x.slots 2).n (x.slots 2).c) 0 Try.isAgg56 rfl (gvt h) rfl) ?_
      refine l1g rfl (gwt rfl) (fun h => lens sl56 rfl (gvt h)) ?_
      refine l1g rfl (gwt rfl) (fun h => neq (gvt h) rfl) ?_
      refine l1 (pk_and rfl rfl rfl) ?_
      refine lnil ?_
      refine nthen ?_
      refine cif rfl (fun h3 => ?_) (fun h3 => ?_)
      · change rslotB (x.slots 2).n = _ at h3
        refine cseq ?_
        refine creg ?_
        refine l1 (asgb rfl) ?_
        refine lnil ?_
        refine nthen ?_
        refine cret ?_
        refine nthenR ?_
        refine nblkR ?_
        refine nthenR ?_
        refine nroundR ?_
        refine nblkR ?_
        refine nthenR ?_
        exact fin1b rfl rfl (by first | rfl | (simp only [rcformedB, rslotsB, h1, h2, h3, cond_true, cond_false]; done) | (simp only [rcformedB, rslotsB, h1, h2, h3, cond_true, cond_false]; rfl))
      · change rslotB (x.slots 2).n = _ at h3
        have : (x.slots 2).n = 0 ∨ (x.slots 2).n = 48 := by (simp [rslotB] at h3; omega)
        refine cskip ?_
        refine nthen ?_
        refine creg ?_
        refine l1 (mvi rfl) ?_
        refine l1 (mvi rfl) ?_
        refine l1 (fa fa59_3 rfl) ?_
        refine l1 (ia ar57 rfl rfl (by decide) (by decide)) ?_
        refine l1 (ldc (v := .slice (x.slots 2).p (x.slots 2).n (x.slots 2).c) 0 Try.isAgg56 rfl rfl rfl) ?_
        refine l1 (lens sl56 rfl rfl) ?_
        first | refine l1 (addn rfl rfl (ri (by omega) (by omega))) ?_ | refine l1 (add rfl rfl) ?_
        refine l1 (asgi rfl) ?_
        refine lnil ?_
        refine nblkN ?_
        refine nthen ?_
        refine creg ?_
        refine l1 (mvi rfl) ?_
        first | refine l1 (addn rfl rfl (ri (by omega) (by omega))) ?_ | refine l1 (add rfl rfl) ?_
        refine l1 (asgi rfl) ?_
        refine lnil ?_
        refine nround (rsucc ?_)
        refine cseq ?_
        refine cseq ?_
        refine creg ?_
        refine l1 (mvi rfl) ?_
        refine l1 (lss rfl rfl) ?_
        refine lnil ?_
        refine nthen ?_
        refine cift rfl ?_
        refine cskip ?_
        refine nthen ?_
        refine cseq ?_
        refine cblock ?_
        refine cseq ?_
        refine cseq ?_
        refine creg ?_
        refine l1 (mvi rfl) ?_
        refine l1 (fa fa59_3 rfl) ?_
        refine l1 (ia ar57 rfl rfl (by decide) (by decide)) ?_
        refine l1 (ldc (v := .slice (x.slots 3).p (x.slots 3).n (x.slots 3).c) 0 Try.isAgg56 rfl rfl rfl) ?_
        refine l1 (lens sl56 rfl rfl) ?_
        refine l1 (neq rfl rfl) ?_
        refine l1 (mvb rfl) ?_
        refine l1g rfl (gwt rfl) (fun h => mvi rfl) ?_
        refine l1g rfl (gwt rfl) (fun h => fa fa59_3 rfl) ?_
        refine l1g rfl (gwt rfl) (fun h => ia ar57 (gvt h) (gvt h) (by decide) (by decide)) ?_
        refine l1g rfl (gwt rfl) (fun h => ldc (v := .slice (x.slots 3).p (x.slots 3).n (x.slots 3).c) 0 Try.isAgg56 rfl (gvt h) rfl) ?_
        refine l1g rfl (gwt rfl) (fun h => lens sl56 rfl (gvt h)) ?_
        refine l1g rfl (gwt rfl) (fun h => neq (gvt h) rfl) ?_
        refine l1 (pk_and rfl rfl rfl) ?_
        refine lnil ?_
        refine nthen ?_
        refine cif rfl (fun h4 => ?_) (fun h4 => ?_)
        · change rslotB (x.slots 3).n = _ at h4
          refine cseq ?_
          refine creg ?_
          refine l1 (asgb rfl) ?_
          refine lnil ?_
          refine nthen ?_
          refine cret ?_
          refine nthenR ?_
          refine nblkR ?_
          refine nthenR ?_
          refine nroundR ?_
          refine nblkR ?_
          refine nthenR ?_
          exact fin1b rfl rfl (by first | rfl | (simp only [rcformedB, rslotsB, h1, h2, h3, h4, cond_true, cond_false]; done) | (simp only [rcformedB, rslotsB, h1, h2, h3, h4, cond_true, cond_false]; rfl))
        · change rslotB (x.slots 3).n = _ at h4
          have : (x.slots 3).n = 0 ∨ (x.slots 3).n = 48 := by (simp [rslotB] at h4; omega)
          refine cskip ?_
          refine nthen ?_
          refine creg ?_
          refine l1 (mvi rfl) ?_
          refine l1 (mvi rfl) ?_
          refine l1 (fa fa59_3 rfl) ?_
          refine l1 (ia ar57 rfl rfl (by decide) (by decide)) ?_
          refine l1 (ldc (v := .slice (x.slots 3).p (x.slots 3).n (x.slots 3).c) 0 Try.isAgg56 rfl rfl rfl) ?_
          refine l1 (lens sl56 rfl rfl) ?_
          first | refine l1 (addn rfl rfl (ri (by omega) (by omega))) ?_ | refine l1 (add rfl rfl) ?_
          refine l1 (asgi rfl) ?_
          refine lnil ?_
          refine nblkN ?_
          refine nthen ?_
          refine creg ?_
          refine l1 (mvi rfl) ?_
          first | refine l1 (addn rfl rfl (ri (by omega) (by omega))) ?_ | refine l1 (add rfl rfl) ?_
          refine l1 (asgi rfl) ?_
          refine lnil ?_
          refine nround (rsucc ?_)
          refine cseq ?_
          refine cseq ?_
          refine creg ?_
          refine l1 (mvi rfl) ?_
          refine l1 (lss rfl rfl) ?_
          refine lnil ?_
          refine nthen ?_
          refine cift rfl ?_
          refine cskip ?_
          refine nthen ?_
          refine cseq ?_
          refine cblock ?_
          refine cseq ?_
          refine cseq ?_
          refine creg ?_
          refine l1 (mvi rfl) ?_
          refine l1 (fa fa59_3 rfl) ?_
          refine l1 (ia ar57 rfl rfl (by decide) (by decide)) ?_
          refine l1 (ldc (v := .slice (x.slots 4).p (x.slots 4).n (x.slots 4).c) 0 Try.isAgg56 rfl rfl rfl) ?_
          refine l1 (lens sl56 rfl rfl) ?_
          refine l1 (neq rfl rfl) ?_
          refine l1 (mvb rfl) ?_
          refine l1g rfl (gwt rfl) (fun h => mvi rfl) ?_
          refine l1g rfl (gwt rfl) (fun h => fa fa59_3 rfl) ?_
          refine l1g rfl (gwt rfl) (fun h => ia ar57 (gvt h) (gvt h) (by decide) (by decide)) ?_
          refine l1g rfl (gwt rfl) (fun h => ldc (v := .slice (x.slots 4).p (x.slots 4).n (x.slots 4).c) 0 Try.isAgg56 rfl (gvt h) rfl) ?_
          refine l1g rfl (gwt rfl) (fun h => lens sl56 rfl (gvt h)) ?_
          refine l1g rfl (gwt rfl) (fun h => neq (gvt h) rfl) ?_
          refine l1 (pk_and rfl rfl rfl) ?_
          refine lnil ?_
          refine nthen ?_
          refine cif rfl (fun h5 => ?_) (fun h5 => ?_)
          · change rslotB (x.slots 4).n = _ at h5
            refine cseq ?_
            refine creg ?_
            refine l1 (asgb rfl) ?_
            refine lnil ?_
            refine nthen ?_
            refine cret ?_
            refine nthenR ?_
            refine nblkR ?_
            refine nthenR ?_
            refine nroundR ?_
            refine nblkR ?_
            refine nthenR ?_
            exact fin1b rfl rfl (by first | rfl | (simp only [rcformedB, rslotsB, h1, h2, h3, h4, h5, cond_true, cond_false]; done) | (simp only [rcformedB, rslotsB, h1, h2, h3, h4, h5, cond_true, cond_false]; rfl))
          · change rslotB (x.slots 4).n = _ at h5
            have : (x.slots 4).n = 0 ∨ (x.slots 4).n = 48 := by (simp [rslotB] at h5; omega)
            refine cskip ?_
            refine nthen ?_
            refine creg ?_
            refine l1 (mvi rfl) ?_
            refine l1 (mvi rfl) ?_
            refine l1 (fa fa59_3 rfl) ?_
            refine l1 (ia ar57 rfl rfl (by decide) (by decide)) ?_
            refine l1 (ldc (v := .slice (x.slots 4).p (x.slots 4).n (x.slots 4).c) 0 Try.isAgg56 rfl rfl rfl) ?_
            refine l1 (lens sl56 rfl rfl) ?_
            first | refine l1 (addn rfl rfl (ri (by omega) (by omega))) ?_ | refine l1 (add rfl rfl) ?_
            refine l1 (asgi rfl) ?_
            refine lnil ?_
            refine nblkN ?_
            refine nthen ?_
            refine creg ?_
            refine l1 (mvi rfl) ?_
            first | refine l1 (addn rfl rfl (ri (by omega) (by omega))) ?_ | refine l1 (add rfl rfl) ?_
            refine l1 (asgi rfl) ?_
            refine lnil ?_
            refine nround (rsucc ?_)
            refine cseq ?_
            refine cseq ?_
            refine creg ?_
            refine l1 (mvi rfl) ?_
            refine l1 (lss rfl rfl) ?_
            refine lnil ?_
            refine nthen ?_
            refine cift rfl ?_
            refine cskip ?_
            refine nthen ?_
            refine cseq ?_
            refine cblock ?_
            refine cseq ?_
            refine cseq ?_
            refine creg ?_
            refine l1 (mvi rfl) ?_
            refine l1 (fa fa59_3 rfl) ?_
            refine l1 (ia ar57 rfl rfl (by decide) (by decide)) ?_
            refine l1 (ldc (v := .slice (x.slots 5).p (x.slots 5).n (x.slots 5).c) 0 Try.isAgg56 rfl rfl rfl) ?_
            refine l1 (lens sl56 rfl rfl) ?_
            refine l1 (neq rfl rfl) ?_
            refine l1 (mvb rfl) ?_
            refine l1g rfl (gwt rfl) (fun h => mvi rfl) ?_
            refine l1g rfl (gwt rfl) (fun h => fa fa59_3 rfl) ?_
            refine l1g rfl (gwt rfl) (fun h => ia ar57 (gvt h) (gvt h) (by decide) (by decide)) ?_
            refine l1g rfl (gwt rfl) (fun h => ldc (v := .slice (x.slots 5).p (x.slots 5).n (x.slots 5).c) 0 Try.isAgg56 rfl (gvt h) rfl) ?_
            refine l1g rfl (gwt rfl) (fun h => lens sl56 rfl (gvt h)) ?_
            refine l1g rfl (gwt rfl) (fun h => neq (gvt h) rfl) ?_
            refine l1 (pk_and rfl rfl rfl) ?_
            refine lnil ?_
            refine nthen ?_
            refine cif rfl (fun h6 => ?_) (fun h6 => ?_)
            · change rslotB (x.slots 5).n = _ at h6
              refine cseq ?_
              refine creg ?_
              refine l1 (asgb rfl) ?_
              refine lnil ?_
              refine nthen ?_
              refine cret ?_
              refine nthenR ?_
              refine nblkR ?_
              refine nthenR ?_
              refine nroundR ?_
              refine nblkR ?_
              refine nthenR ?_
              exact fin1b rfl rfl (by first | rfl | (simp only [rcformedB, rslotsB, h1, h2, h3, h4, h5, h6, cond_true, cond_false]; done) | (simp only [rcformedB, rslotsB, h1, h2, h3, h4, h5, h6, cond_true, cond_false]; rfl))
            · change rslotB (x.slots 5).n = _ at h6
              have : (x.slots 5).n = 0 ∨ (x.slots 5).n = 48 := by (simp [rslotB] at h6; omega)
              refine cskip ?_
              refine nthen ?_
              refine creg ?_
              refine l1 (mvi rfl) ?_
              refine l1 (mvi rfl) ?_
              refine l1 (fa fa59_3 rfl) ?_
              refine l1 (ia ar57 rfl rfl (by decide) (by decide)) ?_
              refine l1 (ldc (v := .slice (x.slots 5).p (x.slots 5).n (x.slots 5).c) 0 Try.isAgg56 rfl rfl rfl) ?_
              refine l1 (lens sl56 rfl rfl) ?_
              first | refine l1 (addn rfl rfl (ri (by omega) (by omega))) ?_ | refine l1 (add rfl rfl) ?_
              refine l1 (asgi rfl) ?_
              refine lnil ?_
              refine nblkN ?_
              refine nthen ?_
              refine creg ?_
              refine l1 (mvi rfl) ?_
              first | refine l1 (addn rfl rfl (ri (by omega) (by omega))) ?_ | refine l1 (add rfl rfl) ?_
              refine l1 (asgi rfl) ?_
              refine lnil ?_
              refine nround (rsucc ?_)
              refine cseq ?_
              refine cseq ?_
              refine creg ?_
              refine l1 (mvi rfl) ?_
              refine l1 (lss rfl rfl) ?_
              refine lnil ?_
              refine nthen ?_
              refine ciff rfl ?_
              refine cexit ?_
              refine nthenE ?_
              refine nroundE ?_
              refine nblkE ?_
              refine nthen ?_
              refine cseq ?_
              refine creg ?_
              refine l1 (fa fa59_0 rfl) ?_
              refine l1 (ldc 0 Try.isAgg3 rfl rfl rfl) ?_
              refine l1 (eql rfl rfl) ?_
              refine l1 (mvb rfl) ?_
              refine l1g rfl (gwf rfl) (fun h => fa fa59_0 rfl) ?_
              refine l1g rfl (gwf rfl) (fun h => ldc 0 Try.isAgg3 rfl (gvt h) rfl) ?_
              refine l1g rfl (gwf rfl) (fun h => eql (gvt h) rfl) ?_
              refine l1 (pk_or rfl rfl rfl) ?_
              refine l1 (mvb rfl) ?_
              refine l1g rfl (gwf rfl) (fun h => fa fa59_0 rfl) ?_
              refine l1g rfl (gwf rfl) (fun h => ldc 0 Try.isAgg3 rfl (gvt h) rfl) ?_
              refine l1g rfl (gwf rfl) (fun h => eql (gvt h) rfl) ?_
              refine l1 (pk_or rfl rfl rfl) ?_
              refine l1 (asgb rfl) ?_
              refine lnil ?_
              refine nthen ?_
              refine cseq ?_
              refine cseq ?_
              refine creg ?_
              refine l1 (fa fa59_0 rfl) ?_
              refine l1 (ldc 0 Try.isAgg3 rfl rfl rfl) ?_
              refine l1 (lss rfl rfl) ?_
              refine l1 (mvb rfl) ?_
              refine l1g rfl (gwf rfl) (fun h => fa fa59_0 rfl) ?_
              refine l1g rfl (gwf rfl) (fun h => ldc 0 Try.isAgg3 rfl (gvt h) rfl) ?_
              refine l1g rfl (gwf rfl) (fun h => gtr (gvt h) rfl) ?_
              refine l1 (pk_or rfl rfl rfl) ?_
              refine l1 (mvb rfl) ?_
              refine l1g rfl (gwf rfl) (fun h => mvb rfl) ?_
              refine l1g rfl (gwf rfl) (fun h => mvb (gvt h)) ?_
              refine l1g rfl (ggt rfl) (fun h => fa fa59_1 rfl) ?_
              refine l1g rfl (ggt rfl) (fun h => ldc 0 Try.isAgg3 rfl (gvt h) rfl) ?_
              refine l1g rfl (ggt rfl) (fun h => lss (gvt h) rfl) ?_
              refine l1g rfl (ggt rfl) (fun h => mvb (gvt h)) ?_
              refine l1g rfl (ggf rfl) (fun h => fa fa59_1 rfl) ?_
              refine l1g rfl (ggf rfl) (fun h => ldc 0 Try.isAgg3 rfl (gvt h) rfl) ?_
              refine l1g rfl (ggf rfl) (fun h => gtr (gvt h) rfl) ?_
              refine l1g rfl (ggt rfl) (fun h => pk_or (gvt h) rfl (gva h)) ?_
              refine l1g rfl (gwf rfl) (fun h => pk_and (gvt h) (gva h) rfl) ?_
              refine l1 (pk_or rfl rfl rfl) ?_
              refine l1 (mvb rfl) ?_
              refine l1g rfl (gwf rfl) (fun h => mvb rfl) ?_
              refine l1g rfl (gwf rfl) (fun h => nt (gvt h)) ?_
              refine l1g rfl (gwf rfl) (fun h => mvb (gvt h)) ?_
              refine l1g rfl (ggt rfl) (fun h => fa fa59_1 rfl) ?_
              refine l1g rfl (ggt rfl) (fun h => ldc 0 Try.isAgg3 rfl (gvt h) rfl) ?_
              refine l1g rfl (ggt rfl) (fun h => neq (gvt h) rfl) ?_
              refine l1g rfl (gwf rfl) (fun h => pk_and (gvt h) (gva h) rfl) ?_
              refine l1 (pk_or rfl rfl rfl) ?_
              refine lnil ?_
              refine nthen ?_
              refine cif rfl (fun h7 => ?_) (fun h7 => ?_)
              · change rbadC x = _ at h7
                refine cseq ?_
                refine creg ?_
                refine l1 (asgb rfl) ?_
                refine lnil ?_
                refine nthen ?_
                refine cret ?_
                refine nthenR ?_
                exact fin1b rfl rfl (by first | rfl | (simp only [rcformedB, rslotsB, h1, h2, h3, h4, h5, h6, h7, cond_true, cond_false]; done) | (simp only [rcformedB, rslotsB, h1, h2, h3, h4, h5, h6, h7, cond_true, cond_false]; rfl))
              · change rbadC x = _ at h7
                refine cskip ?_
                refine nthen ?_
                refine cseq ?_
                refine cseq ?_
                refine creg ?_
                refine l1 (fa fa59_0 rfl) ?_
                refine l1 (ldc 0 Try.isAgg3 rfl rfl rfl) ?_
                refine l1 (eql rfl rfl) ?_
                refine lnil ?_
                refine nthen ?_
                refine cif rfl (fun h8 => ?_) (fun h8 => ?_)
                · skip
                  refine cseq ?_
                  refine creg ?_
                  refine l1 (mvi rfl) ?_
                  refine l1 (eql rfl rfl) ?_
                  refine l1 (mvb rfl) ?_
                  refine l1g rfl (gwt rfl) (fun h => fa fa59_4 rfl) ?_
                  refine l1g rfl (gwt rfl) (fun h => ldc 0 Try.isAgg56 rfl (gvt h) rfl) ?_
                  refine l1g rfl (gwt rfl) (fun h => lens sl56 rfl (gvt h)) ?_
                  refine l1g rfl (gwt rfl) (fun h => eql (gvt h) rfl) ?_
                  refine l1 (pk_and rfl rfl rfl) ?_
                  refine l1 (mvb rfl) ?_
                  refine l1g rfl (gwt rfl) (fun h => fa fa59_2 rfl) ?_
                  refine l1g rfl (gwt rfl) (fun h => ldc 0 Try.isAgg22 rfl (gvt h) rfl) ?_
                  refine l1g rfl (gwt rfl) (fun h => eql (gvt h) rfl) ?_
                  refine l1 (pk_and rfl rfl rfl) ?_
                  refine l1 (asgb rfl) ?_
                  refine lnil ?_
                  refine nthen ?_
                  refine cret ?_
                  refine nthenR ?_
                  exact fin1b rfl rfl (by first | rfl | (simp only [rcformedB, rslotsB, h1, h2, h3, h4, h5, h6, h7, h8, cond_true, cond_false]; done) | (simp only [rcformedB, rslotsB, h1, h2, h3, h4, h5, h6, h7, h8, cond_true, cond_false]; rfl))
                · skip
                  refine cskip ?_
                  refine nthen ?_
                  refine cseq ?_
                  refine creg ?_
                  refine l1 (mvi rfl) ?_
                  refine l1 (gtr rfl rfl) ?_
                  refine l1 (mvb rfl) ?_
                  refine l1g rfl (gwt rfl) (fun h => fa fa59_4 rfl) ?_
                  refine l1g rfl (gwt rfl) (fun h => ldc 0 Try.isAgg56 rfl (gvt h) rfl) ?_
                  refine l1g rfl (gwt rfl) (fun h => lens sl56 rfl (gvt h)) ?_
                  refine l1g rfl (gwt rfl) (fun h => eql (gvt h) rfl) ?_
                  refine l1 (pk_and rfl rfl rfl) ?_
                  refine l1 (mvb rfl) ?_
                  refine l1g rfl (gwt rfl) (fun h => fa fa59_2 rfl) ?_
                  refine l1g rfl (gwt rfl) (fun h => ldc 0 Try.isAgg22 rfl (gvt h) rfl) ?_
                  refine l1g rfl (gwt rfl) (fun h => eql (gvt h) rfl) ?_
                  refine l1g rfl (gwt rfl) (fun h => mvb (gvt h)) ?_
                  refine l1g rfl (ggf rfl) (fun h => fa fa59_0 rfl) ?_
                  refine l1g rfl (ggf rfl) (fun h => ldc 0 Try.isAgg3 rfl (gvt h) rfl) ?_
                  refine l1g rfl (ggf rfl) (fun h => eql (gvt h) rfl) ?_
                  refine l1g rfl (ggf rfl) (fun h => mvb (gvt h)) ?_
                  refine l1g rfl (ggt rfl) (fun h => fa fa59_2 rfl) ?_
                  refine l1g rfl (ggt rfl) (fun h => ldc 0 Try.isAgg22 rfl (gvt h) rfl) ?_
                  refine l1g rfl (ggt rfl) (fun h => leq (gvt h) rfl) ?_
                  refine l1g rfl (ggf rfl) (fun h => pk_and (gvt h) (gva h) rfl) ?_
                  refine l1g rfl (gwt rfl) (fun h => pk_or (gvt h) rfl (gva h)) ?_
                  refine l1 (pk_and rfl rfl rfl) ?_
                  refine l1 (asgb rfl) ?_
                  refine lnil ?_
                  refine nthen ?_
                  refine cret ?_
                  exact fin1b rfl rfl (by first | rfl | (simp only [rcformedB, rslotsB, h1, h2, h3, h4, h5, h6, h7, h8, cond_true, cond_false]; done) | (simp only [rcformedB, rslotsB, h1, h2, h3, h4, h5, h6, h7, h8, cond_true, cond_false]; rfl))

def fewC (x : Ct) : Bool := bif decide (((x.slots 0).n : Int) > 200) then false else bif decide (((x.slots 1).n : Int) > 200) then false else bif decide (((x.slots 2).n : Int) > 200) then false else
  bif decide (((x.slots 3).n : Int) > 200) then false else bif decide (((x.slots 4).n : Int) > 200) then false else bif decide (((x.slots 5).n : Int) > 200) then false else decide ((x.hand.n : Int) ≤ 200)

theorem fewC_calls (x : Ct) (w : World) : Calls Try.prog 41 #[.agg (encC x).toArray] w (Ret (.bool (fewC x)) w) := by
  refine fn_calls (n := 18) Try.func41 rfl rfl (lb rfl) ?_
  refine cseq ?_
  refine creg ?_
  refine lbxa rfl (fun b1 => ?_)
  refine l1 (asgb rfl) ?_
  refine lnil ?_
  refine nthen ?_
  refine cseq ?_
  refine cseq ?_
  refine creg ?_
  refine l1 (asgi rfl) ?_
  refine lnil ?_
  refine nthen ?_
  refine cblock ?_
  refine cloopN 7 ?_
  refine rsucc ?_
  refine cseq ?_
  refine cseq ?_
  refine creg ?_
  refine l1 (mvi rfl) ?_
  refine l1 (lss rfl rfl) ?_
  refine lnil ?_
  refine nthen ?_
  refine cift rfl ?_
  refine cskip ?_
  refine nthen ?_
  refine cseq ?_
  refine cblock ?_
  refine cseq ?_
  refine creg ?_
  refine l1 (mvi rfl) ?_
  refine l1 (fa fa59_3 rfl) ?_
  refine l1 (ia ar57 rfl rfl (by decide) (by decide)) ?_
  refine l1 (ldc 0 Try.isAgg56 rfl rfl rfl) ?_
  refine l1 (lens sl56 rfl rfl) ?_
  refine l1 (gtr rfl rfl) ?_
  refine lnil ?_
  refine nthen ?_
  refine cif rfl (fun h1 => ?_) (fun h1 => ?_)
  · skip
    refine cseq ?_
    refine creg ?_
    refine l1 (asgb rfl) ?_
    refine lnil ?_
    refine nthen ?_
    refine cret ?_
    refine nblkR ?_
    refine nthenR ?_
    refine nroundR ?_
    refine nblkR ?_
    refine nthenR ?_
    exact fin1b rfl rfl (by first | rfl | (simp only [fewC, h1, cond_true, cond_false]; done) | (simp only [fewC, h1, cond_true, cond_false]; rfl))
  · skip
    refine cskip ?_
    refine nblkN ?_
    refine nthen ?_
    refine creg ?_
    refine l1 (mvi rfl) ?_
    first | refine l1 (addn rfl rfl (ri (by omega) (by omega))) ?_ | refine l1 (add rfl rfl) ?_
    refine l1 (asgi rfl) ?_
    refine lnil ?_
    refine nround (rsucc ?_)
    refine cseq ?_
    refine cseq ?_
    refine creg ?_
    refine l1 (mvi rfl) ?_
    refine l1 (lss rfl rfl) ?_
    refine lnil ?_
    refine nthen ?_
    refine cift rfl ?_
    refine cskip ?_
    refine nthen ?_
    refine cseq ?_
    refine cblock ?_
    refine cseq ?_
    refine creg ?_
    refine l1 (mvi rfl) ?_
    refine l1 (fa fa59_3 rfl) ?_
    refine l1 (ia ar57 rfl rfl (by decide) (by decide)) ?_
    refine l1 (ldc 0 Try.isAgg56 rfl rfl rfl) ?_
    refine l1 (lens sl56 rfl rfl) ?_
    refine l1 (gtr rfl rfl) ?_
    refine lnil ?_
    refine nthen ?_
    refine cif rfl (fun h2 => ?_) (fun h2 => ?_)
    · skip
      refine cseq ?_
      refine creg ?_
      refine l1 (asgb rfl) ?_
      refine lnil ?_
      refine nthen ?_
      refine cret ?_
      refine nblkR ?_
      refine nthenR ?_
      refine nroundR ?_
      refine nblkR ?_
      refine nthenR ?_
      exact fin1b rfl rfl (by first | rfl | (simp only [fewC, h1, h2, cond_true, cond_false]; done) | (simp only [fewC, h1, h2, cond_true, cond_false]; rfl))
    · skip
      refine cskip ?_
      refine nblkN ?_
      refine nthen ?_
      refine creg ?_
      refine l1 (mvi rfl) ?_
      first | refine l1 (addn rfl rfl (ri (by omega) (by omega))) ?_ | refine l1 (add rfl rfl) ?_
      refine l1 (asgi rfl) ?_
      refine lnil ?_
      refine nround (rsucc ?_)
      refine cseq ?_
      refine cseq ?_
      refine creg ?_
      refine l1 (mvi rfl) ?_
      refine l1 (lss rfl rfl) ?_
      refine lnil ?_
      refine nthen ?_
      refine cift rfl ?_
      refine cskip ?_
      refine nthen ?_
      refine cseq ?_
      refine cblock ?_
      refine cseq ?_
      refine creg ?_
      refine l1 (mvi rfl) ?_
      refine l1 (fa fa59_3 rfl) ?_
      refine l1 (ia ar57 rfl rfl (by decide) (by decide)) ?_
      refine l1 (ldc 0 Try.isAgg56 rfl rfl rfl) ?_
      refine l1 (lens sl56 rfl rfl) ?_
      refine l1 (gtr rfl rfl) ?_
      refine lnil ?_
      refine nthen ?_
      refine cif rfl (fun h3 => ?_) (fun h3 => ?_)
      · skip
        refine cseq ?_
        refine creg ?_
        refine l1 (asgb rfl) ?_
        refine lnil ?_
        refine nthen ?_
        refine cret ?_
        refine nblkR ?_
        refine nthenR ?_
        refine nroundR ?_
        refine nblkR ?_
        refine nthenR ?_
        exact fin1b rfl rfl (by first | rfl | (simp only [fewC, h1, h2, h3, cond_true, cond_false]; done) | (simp only [fewC, h1, h2, h3, cond_true, cond_false]; rfl))
      · skip
        refine cskip ?_
        refine nblkN ?_
        refine nthen ?_
        refine creg ?_
        refine l1 (mvi rfl) ?_
        first | refine l1 (addn rfl rfl (ri (by omega) (by omega))) ?_ | refine l1 (add rfl rfl) ?_
        refine l1 (asgi rfl) ?_
        refine lnil ?_
        refine nround (rsucc ?_)
        refine cseq ?_
        refine cseq ?_
        refine creg ?_
        refine l1 (mvi rfl) ?_
        refine l1 (lss rfl rfl) ?_
        refine lnil ?_
        refine nthen ?_
        refine cift rfl ?_
        refine cskip ?_
        refine nthen ?_
        refine cseq ?_
        refine cblock ?_
        refine cseq ?_
        refine creg ?_
        refine l1 (mvi rfl) ?_
        refine l1 (fa fa59_3 rfl) ?_
        refine l1 (ia ar57 rfl rfl (by decide) (by decide)) ?_
        refine l1 (ldc 0 Try.isAgg56 rfl rfl rfl) ?_
        refine l1 (lens sl56 rfl rfl) ?_
        refine l1 (gtr rfl rfl) ?_
        refine lnil ?_
        refine nthen ?_
        refine cif rfl (fun h4 => ?_) (fun h4 => ?_)
        · skip
          refine cseq ?_
          refine creg ?_
          refine l1 (asgb rfl) ?_
          refine lnil ?_
          refine nthen ?_
          refine cret ?_
          refine nblkR ?_
          refine nthenR ?_
          refine nroundR ?_
          refine nblkR ?_
          refine nthenR ?_
          exact fin1b rfl rfl (by first | rfl | (simp only [fewC, h1, h2, h3, h4, cond_true, cond_false]; done) | (simp only [fewC, h1, h2, h3, h4, cond_true, cond_false]; rfl))
        · skip
          refine cskip ?_
          refine nblkN ?_
          refine nthen ?_
          refine creg ?_
          refine l1 (mvi rfl) ?_
          first | refine l1 (addn rfl rfl (ri (by omega) (by omega))) ?_ | refine l1 (add rfl rfl) ?_
          refine l1 (asgi rfl) ?_
          refine lnil ?_
          refine nround (rsucc ?_)
          refine cseq ?_
          refine cseq ?_
          refine creg ?_
          refine l1 (mvi rfl) ?_
          refine l1 (lss rfl rfl) ?_
          refine lnil ?_
          refine nthen ?_
          refine cift rfl ?_
          refine cskip ?_
          refine nthen ?_
          refine cseq ?_
          refine cblock ?_
          refine cseq ?_
          refine creg ?_
          refine l1 (mvi rfl) ?_
          refine l1 (fa fa59_3 rfl) ?_
          refine l1 (ia ar57 rfl rfl (by decide) (by decide)) ?_
          refine l1 (ldc 0 Try.isAgg56 rfl rfl rfl) ?_
          refine l1 (lens sl56 rfl rfl) ?_
          refine l1 (gtr rfl rfl) ?_
          refine lnil ?_
          refine nthen ?_
          refine cif rfl (fun h5 => ?_) (fun h5 => ?_)
          · skip
            refine cseq ?_
            refine creg ?_
            refine l1 (asgb rfl) ?_
            refine lnil ?_
            refine nthen ?_
            refine cret ?_
            refine nblkR ?_
            refine nthenR ?_
            refine nroundR ?_
            refine nblkR ?_
            refine nthenR ?_
            exact fin1b rfl rfl (by first | rfl | (simp only [fewC, h1, h2, h3, h4, h5, cond_true, cond_false]; done) | (simp only [fewC, h1, h2, h3, h4, h5, cond_true, cond_false]; rfl))
          · skip
            refine cskip ?_
            refine nblkN ?_
            refine nthen ?_
            refine creg ?_
            refine l1 (mvi rfl) ?_
            first | refine l1 (addn rfl rfl (ri (by omega) (by omega))) ?_ | refine l1 (add rfl rfl) ?_
            refine l1 (asgi rfl) ?_
            refine lnil ?_
            refine nround (rsucc ?_)
            refine cseq ?_
            refine cseq ?_
            refine creg ?_
            refine l1 (mvi rfl) ?_
            refine l1 (lss rfl rfl) ?_
            refine lnil ?_
            refine nthen ?_
            refine cift rfl ?_
            refine cskip ?_
            refine nthen ?_
            refine cseq ?_
            refine cblock ?_
            refine cseq ?_
            refine creg ?_
            refine l1 (mvi rfl) ?_
            refine l1 (fa fa59_3 rfl) ?_
            refine l1 (ia ar57 rfl rfl (by decide) (by decide)) ?_
            refine l1 (ldc 0 Try.isAgg56 rfl rfl rfl) ?_
            refine l1 (lens sl56 rfl rfl) ?_
            refine l1 (gtr rfl rfl) ?_
            refine lnil ?_
            refine nthen ?_
            refine cif rfl (fun h6 => ?_) (fun h6 => ?_)
            · skip
              refine cseq ?_
              refine creg ?_
              refine l1 (asgb rfl) ?_
              refine lnil ?_
              refine nthen ?_
              refine cret ?_
              refine nblkR ?_
              refine nthenR ?_
              refine nroundR ?_
              refine nblkR ?_
              refine nthenR ?_
              exact fin1b rfl rfl (by first | rfl | (simp only [fewC, h1, h2, h3, h4, h5, h6, cond_true, cond_false]; done) | (simp only [fewC, h1, h2, h3, h4, h5, h6, cond_true, cond_false]; rfl))
            · skip
              refine cskip ?_
              refine nblkN ?_
              refine nthen ?_
              refine creg ?_
              refine l1 (mvi rfl) ?_
              first | refine l1 (addn rfl rfl (ri (by omega) (by omega))) ?_ | refine l1 (add rfl rfl) ?_
              refine l1 (asgi rfl) ?_
              refine lnil ?_
              refine nround (rsucc ?_)
              refine cseq ?_
              refine cseq ?_
              refine creg ?_
              refine l1 (mvi rfl) ?_
              refine l1 (lss rfl rfl) ?_
              refine lnil ?_
              refine nthen ?_
              refine ciff rfl ?_
              refine cexit ?_
              refine nthenE ?_
              refine nroundE ?_
              refine nblkE ?_
              refine nthen ?_
              refine cseq ?_
              refine creg ?_
              refine l1 (fa fa59_4 rfl) ?_
              refine l1 (ldc 0 Try.isAgg56 rfl rfl rfl) ?_
              refine l1 (lens sl56 rfl rfl) ?_
              refine l1 (leq rfl rfl) ?_
              refine l1 (asgb rfl) ?_
              refine lnil ?_
              refine nthen ?_
              refine cret ?_
              exact fin1b rfl rfl (by first | rfl | (simp only [fewC, h1, h2, h3, h4, h5, h6, cond_true, cond_false]; done) | (simp only [fewC, h1, h2, h3, h4, h5, h6, cond_true, cond_false]; rfl))
end Go.Proofs.Ytkdbjhlkahkobaa
