/- walks, printed by a program of ours -/
import Derived.Test.YtkdbjhlkahkobaaTy
import Derived.Test.YtkdbjhlkahkobaaDef
import Derived.Test.YtkdbjhlkahkobaaWa
import Derived.Test.YtkdbjhlkahkobaaVl
import Derived.Test.YtkdbjhlkahkobaaTail
import Derived.Test.YtkdbjhlkahkobaaMem
namespace Go.Proofs.Ytkdbjhlkahkobaa
open Jal Go.RowKit
set_option maxRecDepth 100000
theorem greater_calls (a b : Int) (w : World) : Calls Try.prog 66 #[.int .u64 a, .int .u64 b] w (Ret (.int .u64 (max a b)) w) := by
  refine fn_calls (n := 8) Try.func66 rfl rfl (lb rfl) ?_
  refine cseq ?_
  refine creg ?_
  refine l1 (asgi rfl) ?_
  refine lnil ?_
  refine nthen ?_
  refine cseq ?_
  refine creg ?_
  refine l1 (mvi rfl) ?_
  refine l1 (mvi rfl) ?_
  refine l1 (max2 rfl rfl) ?_
  refine l1 (asgi rfl) ?_
  refine lnil ?_
  refine nthen ?_
  refine cret ?_
  exact fin1 rfl rfl

theorem lesser_calls (a b : Int) (w : World) : Calls Try.prog 67 #[.int .u64 a, .int .u64 b] w (Ret (.int .u64 (min a b)) w) := by
  refine fn_calls (n := 8) Try.func67 rfl rfl (lb rfl) ?_
  refine cseq ?_
  refine creg ?_
  refine l1 (asgi rfl) ?_
  refine lnil ?_
  refine nthen ?_
  refine cseq ?_
  refine creg ?_
  refine l1 (mvi rfl) ?_
  refine l1 (mvi rfl) ?_
  refine l1 (min2 rfl rfl) ?_
  refine l1 (asgi rfl) ?_
  refine lnil ?_
  refine nthen ?_
  refine cret ?_
  exact fin1 rfl rfl

theorem more_calls (a b : Int) (w : World) : Calls Try.prog 68 #[.int .u64 a, .int .u64 b] w (Ret (.int .u64 (moreI a b)) w) := by
  refine fn_calls (n := 12) Try.func68 rfl rfl (lb rfl) ?_
  refine cseq ?_
  refine creg ?_
  refine l1 (asgi rfl) ?_
  refine lnil ?_
  refine nthen ?_
  refine cseq ?_
  refine cseq ?_
  refine creg ?_
  refine l1 (mvi rfl) ?_
  refine l1 (mvi rfl) ?_
  refine l1 (gtr rfl rfl) ?_
  refine lnil ?_
  refine nthen ?_
  refine cif rfl (fun h1 => ?_) (fun h1 => ?_)
  · skip
    refine cseq ?_
    refine creg ?_
    refine l1 (mvi rfl) ?_
    refine l1 (mvi rfl) ?_
    first | refine l1 (subn rfl rfl (ru (by omega) (by omega))) ?_ | refine l1 (sub rfl rfl) ?_
    refine l1 (min2 rfl rfl) ?_
    refine l1 (asgi rfl) ?_
    refine lnil ?_
    refine nthen ?_
    refine cret ?_
    refine nthenR ?_
    exact fin1i rfl rfl (by first | rfl | (simp only [moreI, h1, cond_true, cond_false]; done))
  · skip
    refine cskip ?_
    refine nthen ?_
    refine cseq ?_
    refine creg ?_
    refine l1 (asgi rfl) ?_
    refine lnil ?_
    refine nthen ?_
    refine cret ?_
    exact fin1i rfl rfl (by first | rfl | (simp only [moreI, h1, cond_true, cond_false]; done))

set_option maxHeartbeats 4000000 in
theorem each_calls {f : Nat} {op : Int → Int → Int} (hbf : HasBody Try.prog f) (hc : ∀ a b w, Calls Try.prog f #[.int .u64 a, .int .u64 b] w (Ret (.int .u64 (op a b)) w)) (a b : Vec) (w : World) : Calls Try.prog 65 #[.agg (encV a).toArray, .agg (encV b).toArray, .func (.func f) #[] #[]] w (Ret (.agg (encV (eachV op a b)).toArray) w) := by
  refine fn_calls (n := 23) Try.func65 rfl rfl (lb rfl) ?_
  refine cseq ?_
  refine creg ?_
  refine lbxa rfl (fun b1 => ?_)
  refine lbxa rfl (fun b2 => ?_)
  refine lal Try.zeroValue24 rfl (fun b3 => ?_)
  refine lnil ?_
  refine nthen ?_
  refine cseq ?_
  refine cseq ?_
  refine creg ?_
  refine l1 (mvi rfl) ?_
  refine lnil ?_
  refine nthen ?_
  refine cblock ?_
  refine cloopN 7 ?_
  refine rsucc ?_
  refine cseq ?_
  refine creg ?_
  refine l1 (lss rfl rfl) ?_
  refine lnil ?_
  refine nthen ?_
  refine cseq ?_
  refine cift rfl ?_
  refine cskip ?_
  refine nthen ?_
  refine cseq ?_
  refine cblock ?_
  refine cseq ?_
  refine creg ?_
  refine l1 (mvi rfl) ?_
  refine l1 (asgi rfl) ?_
  refine lnil ?_
  refine nthen ?_
  refine cregT 10 mo (by kernel_rfl) ?_
  refine q1 (mvi rfl) ?_
  refine q1 (mvf rfl) ?_
  refine q1 (mvi rfl) ?_
  refine q1 (ia ar24 rfl rfl (by decide) (by decide)) ?_
  refine q1 (ldc 0 Try.isAgg22 rfl rfl rfl) ?_
  refine q1 (mvi rfl) ?_
  refine q1 (ia ar24 rfl rfl (by decide) (by decide)) ?_
  refine q1 (ldc 1 Try.isAgg22 rfl rfl rfl) ?_
  refine q1 (cl hbf rfl (mc rfl (mc rfl mn)) (fun w hw => hc _ _ w)) ?_
  refine q1 (ia ar24 rfl rfl (by decide) (by decide)) ?_
  refine qtail ?_
  refine lsti 0 rfl rfl rfl Try.sizeOf22 (lb rfl) rfl ?_
  refine lnil ?_
  refine nblkN ?_
  refine nthen ?_
  refine creg ?_
  first | refine l1 (addn rfl rfl (ri (by omega) (by omega))) ?_ | refine l1 (add rfl rfl) ?_
  refine l1 (mvi rfl) ?_
  refine lnil ?_
  refine nround (rsucc ?_)
  refine cseq ?_
  refine creg ?_
  refine l1 (lss rfl rfl) ?_
  refine lnil ?_
  refine nthen ?_
  refine cseq ?_
  refine cift rfl ?_
  refine cskip ?_
  refine nthen ?_
  refine cseq ?_
  refine cblock ?_
  refine cseq ?_
  refine creg ?_
  refine l1 (mvi rfl) ?_
  refine l1 (asgi rfl) ?_
  refine lnil ?_
  refine nthen ?_
  refine cregT 10 mo (by kernel_rfl) ?_
  refine q1 (mvi rfl) ?_
  refine q1 (mvf rfl) ?_
  refine q1 (mvi rfl) ?_
  refine q1 (ia ar24 rfl rfl (by decide) (by decide)) ?_
  refine q1 (ldc 0 Try.isAgg22 rfl rfl rfl) ?_
  refine q1 (mvi rfl) ?_
  refine q1 (ia ar24 rfl rfl (by decide) (by decide)) ?_
  refine q1 (ldc 1 Try.isAgg22 rfl rfl rfl) ?_
  refine q1 (cl hbf rfl (mc rfl (mc rfl mn)) (fun w hw => hc _ _ w)) ?_
  refine q1 (ia ar24 rfl rfl (by decide) (by decide)) ?_
  refine qtail ?_
  refine lsti 0 rfl rfl rfl Try.sizeOf22 (lb rfl) rfl ?_
  refine lnil ?_
  refine nblkN ?_
  refine nthen ?_
  refine creg ?_
  first | refine l1 (addn rfl rfl (ri (by omega) (by omega))) ?_ | refine l1 (add rfl rfl) ?_
  refine l1 (mvi rfl) ?_
  refine lnil ?_
  refine nround (rsucc ?_)
  refine cseq ?_
  refine creg ?_
  refine l1 (lss rfl rfl) ?_
  refine lnil ?_
  refine nthen ?_
  refine cseq ?_
  refine cift rfl ?_
  refine cskip ?_
  refine nthen ?_
  refine cseq ?_
  refine cblock ?_
  refine cseq ?_
  refine creg ?_
  refine l1 (mvi rfl) ?_
  refine l1 (asgi rfl) ?_
  refine lnil ?_
  refine nthen ?_
  refine cregT 10 mo (by kernel_rfl) ?_
  refine q1 (mvi rfl) ?_
  refine q1 (mvf rfl) ?_
  refine q1 (mvi rfl) ?_
  refine q1 (ia ar24 rfl rfl (by decide) (by decide)) ?_
  refine q1 (ldc 0 Try.isAgg22 rfl rfl rfl) ?_
  refine q1 (mvi rfl) ?_
  refine q1 (ia ar24 rfl rfl (by decide) (by decide)) ?_
  refine q1 (ldc 1 Try.isAgg22 rfl rfl rfl) ?_
  refine q1 (cl hbf rfl (mc rfl (mc rfl mn)) (fun w hw => hc _ _ w)) ?_
  refine q1 (ia ar24 rfl rfl (by decide) (by decide)) ?_
  refine qtail ?_
  refine lsti 0 rfl rfl rfl Try.sizeOf22 (lb rfl) rfl ?_
  refine lnil ?_
  refine nblkN ?_
  refine nthen ?_
  refine creg ?_
  first | refine l1 (addn rfl rfl (ri (by omega) (by omega))) ?_ | refine l1 (add rfl rfl) ?_
  refine l1 (mvi rfl) ?_
  refine lnil ?_
  refine nround (rsucc ?_)
  refine cseq ?_
  refine creg ?_
  refine l1 (lss rfl rfl) ?_
  refine lnil ?_
  refine nthen ?_
  refine cseq ?_
  refine cift rfl ?_
  refine cskip ?_
  refine nthen ?_
  refine cseq ?_
  refine cblock ?_
  refine cseq ?_
  refine creg ?_
  refine l1 (mvi rfl) ?_
  refine l1 (asgi rfl) ?_
  refine lnil ?_
  refine nthen ?_
  refine cregT 10 mo (by kernel_rfl) ?_
  refine q1 (mvi rfl) ?_
  refine q1 (mvf rfl) ?_
  refine q1 (mvi rfl) ?_
  refine q1 (ia ar24 rfl rfl (by decide) (by decide)) ?_
  refine q1 (ldc 0 Try.isAgg22 rfl rfl rfl) ?_
  refine q1 (mvi rfl) ?_
  refine q1 (ia ar24 rfl rfl (by decide) (by decide)) ?_
  refine q1 (ldc 1 Try.isAgg22 rfl rfl rfl) ?_
  refine q1 (cl hbf rfl (mc rfl (mc rfl mn)) (fun w hw => hc _ _ w)) ?_
  refine q1 (ia ar24 rfl rfl (by decide) (by decide)) ?_
  refine qtail ?_
  refine lsti 0 rfl rfl rfl Try.sizeOf22 (lb rfl) rfl ?_
  refine lnil ?_
  refine nblkN ?_
  refine nthen ?_
  refine creg ?_
  first | refine l1 (addn rfl rfl (ri (by omega) (by omega))) ?_ | refine l1 (add rfl rfl) ?_
  refine l1 (mvi rfl) ?_
  refine lnil ?_
  refine nround (rsucc ?_)
  refine cseq ?_
  refine creg ?_
  refine l1 (lss rfl rfl) ?_
  refine lnil ?_
  refine nthen ?_
  refine cseq ?_
  refine cift rfl ?_
  refine cskip ?_
  refine nthen ?_
  refine cseq ?_
  refine cblock ?_
  refine cseq ?_
  refine creg ?_
  refine l1 (mvi rfl) ?_
  refine l1 (asgi rfl) ?_
  refine lnil ?_
  refine nthen ?_
  refine cregT 10 mo (by kernel_rfl) ?_
  refine q1 (mvi rfl) ?_
  refine q1 (mvf rfl) ?_
  refine q1 (mvi rfl) ?_
  refine q1 (ia ar24 rfl rfl (by decide) (by decide)) ?_
  refine q1 (ldc 0 Try.isAgg22 rfl rfl rfl) ?_
  refine q1 (mvi rfl) ?_
  refine q1 (ia ar24 rfl rfl (by decide) (by decide)) ?_
  refine q1 (ldc 1 Try.isAgg22 rfl rfl rfl) ?_
  refine q1 (cl hbf rfl (mc rfl (mc rfl mn)) (fun w hw => hc _ _ w)) ?_
  refine q1 (ia ar24 rfl rfl (by decide) (by decide)) ?_
  refine qtail ?_
  refine lsti 0 rfl rfl rfl Try.sizeOf22 (lb rfl) rfl ?_
  refine lnil ?_
  refine nblkN ?_
  refine nthen ?_
  refine creg ?_
  first | refine l1 (addn rfl rfl (ri (by omega) (by omega))) ?_ | refine l1 (add rfl rfl) ?_
  refine l1 (mvi rfl) ?_
  refine lnil ?_
  refine nround (rsucc ?_)
  refine cseq ?_
  refine creg ?_
  refine l1 (lss rfl rfl) ?_
  refine lnil ?_
  refine nthen ?_
  refine cseq ?_
  refine cift rfl ?_
  refine cskip ?_
  refine nthen ?_
  refine cseq ?_
  refine cblock ?_
  refine cseq ?_
  refine creg ?_
  refine l1 (mvi rfl) ?_
  refine l1 (asgi rfl) ?_
  refine lnil ?_
  refine nthen ?_
  refine cregT 10 mo (by kernel_rfl) ?_
  refine q1 (mvi rfl) ?_
  refine q1 (mvf rfl) ?_
  refine q1 (mvi rfl) ?_
  refine q1 (ia ar24 rfl rfl (by decide) (by decide)) ?_
  refine q1 (ldc 0 Try.isAgg22 rfl rfl rfl) ?_
  refine q1 (mvi rfl) ?_
  refine q1 (ia ar24 rfl rfl (by decide) (by decide)) ?_
  refine q1 (ldc 1 Try.isAgg22 rfl rfl rfl) ?_
  refine q1 (cl hbf rfl (mc rfl (mc rfl mn)) (fun w hw => hc _ _ w)) ?_
  refine q1 (ia ar24 rfl rfl (by decide) (by decide)) ?_
  refine qtail ?_
  refine lsti 0 rfl rfl rfl Try.sizeOf22 (lb rfl) rfl ?_
  refine lnil ?_
  refine nblkN ?_
  refine nthen ?_
  refine creg ?_
  first | refine l1 (addn rfl rfl (ri (by omega) (by omega))) ?_ | refine l1 (add rfl rfl) ?_
  refine l1 (mvi rfl) ?_
  refine lnil ?_
  refine nround (rsucc ?_)
  refine cseq ?_
  refine creg ?_
  refine l1 (lss rfl rfl) ?_
  refine lnil ?_
  refine nthen ?_
  refine cseq ?_
  refine ciff rfl ?_
  refine cexit ?_
  refine nthenE ?_
  refine nroundE ?_
  refine nblkE ?_
  refine nthen ?_
  refine cseq ?_
  refine creg ?_
  refine l1 (ldw 0 Try.isAgg24 Try.sizeOf24 rfl rfl rfl) ?_
  refine lstw 2 rfl rfl rfl Try.sizeOf24 rfl rfl rfl ?_
  refine lnil ?_
  refine nthen ?_
  refine cret ?_
  exact finc 2 rfl Try.isAgg24 Try.sizeOf24 rfl rfl rfl rfl

theorem join_calls (a b : Vec) (w : World) : Calls Try.prog 21 #[.agg (encV a).toArray, .agg (encV b).toArray] w (Ret (.agg (encV (eachV max a b)).toArray) w) := by
  refine fn_calls (n := 8) Try.func21 rfl rfl (lb rfl) ?_
  refine cseq ?_
  refine creg ?_
  refine lbxa rfl (fun b1 => ?_)
  refine lbxa rfl (fun b2 => ?_)
  refine lal Try.zeroValue24 rfl (fun b3 => ?_)
  refine lnil ?_
  refine nthen ?_
  refine cseq ?_
  refine creg ?_
  refine l1 (ldw 0 Try.isAgg24 Try.sizeOf24 rfl rfl rfl) ?_
  refine l1 (ldw 1 Try.isAgg24 Try.sizeOf24 rfl rfl rfl) ?_
  refine l1 (cl hb65 rfl (mc rfl (mc rfl (mc rfl mn))) (fun w hw => each_calls hb66 greater_calls _ _ w)) ?_
  refine lstw 2 rfl rfl rfl Try.sizeOf24 rfl rfl rfl ?_
  refine lnil ?_
  refine nthen ?_
  refine cret ?_
  exact finc 2 rfl Try.isAgg24 Try.sizeOf24 rfl rfl rfl rfl

theorem meet_calls (a b : Vec) (w : World) : Calls Try.prog 22 #[.agg (encV a).toArray, .agg (encV b).toArray] w (Ret (.agg (encV (eachV min a b)).toArray) w) := by
  refine fn_calls (n := 8) Try.func22 rfl rfl (lb rfl) ?_
  refine cseq ?_
  refine creg ?_
  refine lbxa rfl (fun b1 => ?_)
  refine lbxa rfl (fun b2 => ?_)
  refine lal Try.zeroValue24 rfl (fun b3 => ?_)
  refine lnil ?_
  refine nthen ?_
  refine cseq ?_
  refine creg ?_
  refine l1 (ldw 0 Try.isAgg24 Try.sizeOf24 rfl rfl rfl) ?_
  refine l1 (ldw 1 Try.isAgg24 Try.sizeOf24 rfl rfl rfl) ?_
  refine l1 (cl hb65 rfl (mc rfl (mc rfl (mc rfl mn))) (fun w hw => each_calls hb67 lesser_calls _ _ w)) ?_
  refine lstw 2 rfl rfl rfl Try.sizeOf24 rfl rfl rfl ?_
  refine lnil ?_
  refine nthen ?_
  refine cret ?_
  exact finc 2 rfl Try.isAgg24 Try.sizeOf24 rfl rfl rfl rfl

theorem great_calls (a b : Vec) (w : World) : Calls Try.prog 23 #[.agg (encV a).toArray, .agg (encV b).toArray] w (Ret (.bool (greatV a b)) w) := by
  refine fn_calls (n := 10) Try.func23 rfl rfl (lb rfl) ?_
  refine cseq ?_
  refine creg ?_
  refine lbxa rfl (fun b1 => ?_)
  refine lbxa rfl (fun b2 => ?_)
  refine l1 (asgb rfl) ?_
  refine lnil ?_
  refine nthen ?_
  refine cseq ?_
  refine cregq mo (by kernel_rfl) ?_
  refine q1 (ldw 0 Try.isAgg24 Try.sizeOf24 rfl rfl rfl) ?_
  refine q1 (ldw 1 Try.isAgg24 Try.sizeOf24 rfl rfl rfl) ?_
  refine q1 (cl hb21 rfl (mc rfl (mc rfl mn)) (fun w hw => join_calls _ _ w)) ?_
  refine q1 (ldw 0 Try.isAgg24 Try.sizeOf24 rfl rfl rfl) ?_
  refine q1 (eqla rfl rfl (fun w => eql24 _ _ w)) ?_
  refine q1 (asgb rfl) ?_
  refine qnil ?_
  refine nthen ?_
  refine cret ?_
  exact fin1 rfl rfl

theorem missing_calls (a b : Vec) (w : World) : Calls Try.prog 25 #[.agg (encV a).toArray, .agg (encV b).toArray] w (Ret (.int .u64 (missV a b)) w) := by
  refine fn_calls (n := 19) Try.func25 rfl rfl (lb rfl) ?_
  refine cseq ?_
  refine creg ?_
  refine lbxa rfl (fun b1 => ?_)
  refine lbxa rfl (fun b2 => ?_)
  refine l1 (asgi rfl) ?_
  refine lnil ?_
  refine nthen ?_
  refine cseq ?_
  refine creg ?_
  refine l1 (asgi rfl) ?_
  refine lnil ?_
  refine nthen ?_
  refine cseq ?_
  refine cseq ?_
  refine creg ?_
  refine l1 (ldw 0 Try.isAgg24 Try.sizeOf24 rfl rfl rfl) ?_
  refine l1 (ldw 1 Try.isAgg24 Try.sizeOf24 rfl rfl rfl) ?_
  refine l1 (cl hb65 rfl (mc rfl (mc rfl (mc rfl mn))) (fun w hw => each_calls hb68 more_calls _ _ w)) ?_
  refine l1 (mvi rfl) ?_
  refine lnil ?_
  refine nthen ?_
  refine cblock ?_
  refine cloopN 7 ?_
  refine rsucc ?_
  refine cseq ?_
  refine creg ?_
  refine l1 (lss rfl rfl) ?_
  refine lnil ?_
  refine nthen ?_
  refine cseq ?_
  refine cift rfl ?_
  refine cskip ?_
  refine nthen ?_
  refine cseq ?_
  refine cblock ?_
  refine cseq ?_
  refine creg ?_
  refine l1 (ixv Try.underlying24 Try.sizeOf22 Try.isAgg22 rfl rfl (by decide) (by decide) rfl) ?_
  refine l1 (asgi rfl) ?_
  refine lnil ?_
  refine nthen ?_
  refine creg ?_
  refine l1 (mvi rfl) ?_
  refine l1 (mvi rfl) ?_
  first | refine l1 (addn rfl rfl (ru (by omega) (by omega))) ?_ | refine l1 (add rfl rfl) ?_
  refine l1 (asgi rfl) ?_
  refine lnil ?_
  refine nblkN ?_
  refine nthen ?_
  refine creg ?_
  first | refine l1 (addn rfl rfl (ri (by omega) (by omega))) ?_ | refine l1 (add rfl rfl) ?_
  refine l1 (mvi rfl) ?_
  refine lnil ?_
  refine nround (rsucc ?_)
  refine cseq ?_
  refine creg ?_
  refine l1 (lss rfl rfl) ?_
  refine lnil ?_
  refine nthen ?_
  refine cseq ?_
  refine cift rfl ?_
  refine cskip ?_
  refine nthen ?_
  refine cseq ?_
  refine cblock ?_
  refine cseq ?_
  refine creg ?_
  refine l1 (ixv Try.underlying24 Try.sizeOf22 Try.isAgg22 rfl rfl (by decide) (by decide) rfl) ?_
  refine l1 (asgi rfl) ?_
  refine lnil ?_
  refine nthen ?_
  refine creg ?_
  refine l1 (mvi rfl) ?_
  refine l1 (mvi rfl) ?_
  first | refine l1 (addn rfl rfl (ru (by omega) (by omega))) ?_ | refine l1 (add rfl rfl) ?_
  refine l1 (asgi rfl) ?_
  refine lnil ?_
  refine nblkN ?_
  refine nthen ?_
  refine creg ?_
  first | refine l1 (addn rfl rfl (ri (by omega) (by omega))) ?_ | refine l1 (add rfl rfl) ?_
  refine l1 (mvi rfl) ?_
  refine lnil ?_
  refine nround (rsucc ?_)
  refine cseq ?_
  refine creg ?_
  refine l1 (lss rfl rfl) ?_
  refine lnil ?_
  refine nthen ?_
  refine cseq ?_
  refine cift rfl ?_
  refine cskip ?_
  refine nthen ?_
  refine cseq ?_
  refine cblock ?_
  refine cseq ?_
  refine creg ?_
  refine l1 (ixv Try.underlying24 Try.sizeOf22 Try.isAgg22 rfl rfl (by decide) (by decide) rfl) ?_
  refine l1 (asgi rfl) ?_
  refine lnil ?_
  refine nthen ?_
  refine creg ?_
  refine l1 (mvi rfl) ?_
  refine l1 (mvi rfl) ?_
  first | refine l1 (addn rfl rfl (ru (by omega) (by omega))) ?_ | refine l1 (add rfl rfl) ?_
  refine l1 (asgi rfl) ?_
  refine lnil ?_
  refine nblkN ?_
  refine nthen ?_
  refine creg ?_
  first | refine l1 (addn rfl rfl (ri (by omega) (by omega))) ?_ | refine l1 (add rfl rfl) ?_
  refine l1 (mvi rfl) ?_
  refine lnil ?_
  refine nround (rsucc ?_)
  refine cseq ?_
  refine creg ?_
  refine l1 (lss rfl rfl) ?_
  refine lnil ?_
  refine nthen ?_
  refine cseq ?_
  refine cift rfl ?_
  refine cskip ?_
  refine nthen ?_
  refine cseq ?_
  refine cblock ?_
  refine cseq ?_
  refine creg ?_
  refine l1 (ixv Try.underlying24 Try.sizeOf22 Try.isAgg22 rfl rfl (by decide) (by decide) rfl) ?_
  refine l1 (asgi rfl) ?_
  refine lnil ?_
  refine nthen ?_
  refine creg ?_
  refine l1 (mvi rfl) ?_
  refine l1 (mvi rfl) ?_
  first | refine l1 (addn rfl rfl (ru (by omega) (by omega))) ?_ | refine l1 (add rfl rfl) ?_
  refine l1 (asgi rfl) ?_
  refine lnil ?_
  refine nblkN ?_
  refine nthen ?_
  refine creg ?_
  first | refine l1 (addn rfl rfl (ri (by omega) (by omega))) ?_ | refine l1 (add rfl rfl) ?_
  refine l1 (mvi rfl) ?_
  refine lnil ?_
  refine nround (rsucc ?_)
  refine cseq ?_
  refine creg ?_
  refine l1 (lss rfl rfl) ?_
  refine lnil ?_
  refine nthen ?_
  refine cseq ?_
  refine cift rfl ?_
  refine cskip ?_
  refine nthen ?_
  refine cseq ?_
  refine cblock ?_
  refine cseq ?_
  refine creg ?_
  refine l1 (ixv Try.underlying24 Try.sizeOf22 Try.isAgg22 rfl rfl (by decide) (by decide) rfl) ?_
  refine l1 (asgi rfl) ?_
  refine lnil ?_
  refine nthen ?_
  refine creg ?_
  refine l1 (mvi rfl) ?_
  refine l1 (mvi rfl) ?_
  first | refine l1 (addn rfl rfl (ru (by omega) (by omega))) ?_ | refine l1 (add rfl rfl) ?_
  refine l1 (asgi rfl) ?_
  refine lnil ?_
  refine nblkN ?_
  refine nthen ?_
  refine creg ?_
  first | refine l1 (addn rfl rfl (ri (by omega) (by omega))) ?_ | refine l1 (add rfl rfl) ?_
  refine l1 (mvi rfl) ?_
  refine lnil ?_
  refine nround (rsucc ?_)
  refine cseq ?_
  refine creg ?_
  refine l1 (lss rfl rfl) ?_
  refine lnil ?_
  refine nthen ?_
  refine cseq ?_
  refine cift rfl ?_
  refine cskip ?_
  refine nthen ?_
  refine cseq ?_
  refine cblock ?_
  refine cseq ?_
  refine creg ?_
  refine l1 (ixv Try.underlying24 Try.sizeOf22 Try.isAgg22 rfl rfl (by decide) (by decide) rfl) ?_
  refine l1 (asgi rfl) ?_
  refine lnil ?_
  refine nthen ?_
  refine creg ?_
  refine l1 (mvi rfl) ?_
  refine l1 (mvi rfl) ?_
  first | refine l1 (addn rfl rfl (ru (by omega) (by omega))) ?_ | refine l1 (add rfl rfl) ?_
  refine l1 (asgi rfl) ?_
  refine lnil ?_
  refine nblkN ?_
  refine nthen ?_
  refine creg ?_
  first | refine l1 (addn rfl rfl (ri (by omega) (by omega))) ?_ | refine l1 (add rfl rfl) ?_
  refine l1 (mvi rfl) ?_
  refine lnil ?_
  refine nround (rsucc ?_)
  refine cseq ?_
  refine creg ?_
  refine l1 (lss rfl rfl) ?_
  refine lnil ?_
  refine nthen ?_
  refine cseq ?_
  refine ciff rfl ?_
  refine cexit ?_
  refine nthenE ?_
  refine nroundE ?_
  refine nblkE ?_
  refine nthen ?_
  refine cseq ?_
  refine creg ?_
  refine l1 (mvi rfl) ?_
  refine l1 (asgi rfl) ?_
  refine lnil ?_
  refine nthen ?_
  refine cret ?_
  exact fin1 rfl rfl

theorem total_calls (a : Vec) (w : World) : Calls Try.prog 27 #[.agg (encV a).toArray] w (Ret (.int .u64 (totV a)) w) := by
  refine fn_calls (n := 16) Try.func27 rfl rfl (lb rfl) ?_
  refine cseq ?_
  refine creg ?_
  refine lbxa rfl (fun b1 => ?_)
  refine l1 (asgi rfl) ?_
  refine lnil ?_
  refine nthen ?_
  refine cseq ?_
  refine creg ?_
  refine l1 (asgi rfl) ?_
  refine lnil ?_
  refine nthen ?_
  refine cseq ?_
  refine cseq ?_
  refine creg ?_
  refine l1 (ldw 0 Try.isAgg24 Try.sizeOf24 rfl rfl rfl) ?_
  refine l1 (mvi rfl) ?_
  refine lnil ?_
  refine nthen ?_
  refine cblock ?_
  refine cloopN 7 ?_
  refine rsucc ?_
  refine cseq ?_
  refine creg ?_
  refine l1 (lss rfl rfl) ?_
  refine lnil ?_
  refine nthen ?_
  refine cseq ?_
  refine cift rfl ?_
  refine cskip ?_
  refine nthen ?_
  refine cseq ?_
  refine cblock ?_
  refine cseq ?_
  refine creg ?_
  refine l1 (ixv Try.underlying24 Try.sizeOf22 Try.isAgg22 rfl rfl (by decide) (by decide) rfl) ?_
  refine l1 (asgi rfl) ?_
  refine lnil ?_
  refine nthen ?_
  refine creg ?_
  refine l1 (mvi rfl) ?_
  refine l1 (mvi rfl) ?_
  refine l1 (min2 rfl rfl) ?_
  first | refine l1 (addn rfl rfl (ru (by omega) (by omega))) ?_ | refine l1 (add rfl rfl) ?_
  refine l1 (asgi rfl) ?_
  refine lnil ?_
  refine nblkN ?_
  refine nthen ?_
  refine creg ?_
  first | refine l1 (addn rfl rfl (ri (by omega) (by omega))) ?_ | refine l1 (add rfl rfl) ?_
  refine l1 (mvi rfl) ?_
  refine lnil ?_
  refine nround (rsucc ?_)
  refine cseq ?_
  refine creg ?_
  refine l1 (lss rfl rfl) ?_
  refine lnil ?_
  refine nthen ?_
  refine cseq ?_
  refine cift rfl ?_
  refine cskip ?_
  refine nthen ?_
  refine cseq ?_
  refine cblock ?_
  refine cseq ?_
  refine creg ?_
  refine l1 (ixv Try.underlying24 Try.sizeOf22 Try.isAgg22 rfl rfl (by decide) (by decide) rfl) ?_
  refine l1 (asgi rfl) ?_
  refine lnil ?_
  refine nthen ?_
  refine creg ?_
  refine l1 (mvi rfl) ?_
  refine l1 (mvi rfl) ?_
  refine l1 (min2 rfl rfl) ?_
  first | refine l1 (addn rfl rfl (ru (by omega) (by omega))) ?_ | refine l1 (add rfl rfl) ?_
  refine l1 (asgi rfl) ?_
  refine lnil ?_
  refine nblkN ?_
  refine nthen ?_
  refine creg ?_
  first | refine l1 (addn rfl rfl (ri (by omega) (by omega))) ?_ | refine l1 (add rfl rfl) ?_
  refine l1 (mvi rfl) ?_
  refine lnil ?_
  refine nround (rsucc ?_)
  refine cseq ?_
  refine creg ?_
  refine l1 (lss rfl rfl) ?_
  refine lnil ?_
  refine nthen ?_
  refine cseq ?_
  refine cift rfl ?_
  refine cskip ?_
  refine nthen ?_
  refine cseq ?_
  refine cblock ?_
  refine cseq ?_
  refine creg ?_
  refine l1 (ixv Try.underlying24 Try.sizeOf22 Try.isAgg22 rfl rfl (by decide) (by decide) rfl) ?_
  refine l1 (asgi rfl) ?_
  refine lnil ?_
  refine nthen ?_
  refine creg ?_
  refine l1 (mvi rfl) ?_
  refine l1 (mvi rfl) ?_
  refine l1 (min2 rfl rfl) ?_
  first | refine l1 (addn rfl rfl (ru (by omega) (by omega))) ?_ | refine l1 (add rfl rfl) ?_
  refine l1 (asgi rfl) ?_
  refine lnil ?_
  refine nblkN ?_
  refine nthen ?_
  refine creg ?_
  first | refine l1 (addn rfl rfl (ri (by omega) (by omega))) ?_ | refine l1 (add rfl rfl) ?_
  refine l1 (mvi rfl) ?_
  refine lnil ?_
  refine nround (rsucc ?_)
  refine cseq ?_
  refine creg ?_
  refine l1 (lss rfl rfl) ?_
  refine lnil ?_
  refine nthen ?_
  refine cseq ?_
  refine cift rfl ?_
  refine cskip ?_
  refine nthen ?_
  refine cseq ?_
  refine cblock ?_
  refine cseq ?_
  refine creg ?_
  refine l1 (ixv Try.underlying24 Try.sizeOf22 Try.isAgg22 rfl rfl (by decide) (by decide) rfl) ?_
  refine l1 (asgi rfl) ?_
  refine lnil ?_
  refine nthen ?_
  refine creg ?_
  refine l1 (mvi rfl) ?_
  refine l1 (mvi rfl) ?_
  refine l1 (min2 rfl rfl) ?_
  first | refine l1 (addn rfl rfl (ru (by omega) (by omega))) ?_ | refine l1 (add rfl rfl) ?_
  refine l1 (asgi rfl) ?_
  refine lnil ?_
  refine nblkN ?_
  refine nthen ?_
  refine creg ?_
  first | refine l1 (addn rfl rfl (ri (by omega) (by omega))) ?_ | refine l1 (add rfl rfl) ?_
  refine l1 (mvi rfl) ?_
  refine lnil ?_
  refine nround (rsucc ?_)
  refine cseq ?_
  refine creg ?_
  refine l1 (lss rfl rfl) ?_
  refine lnil ?_
  refine nthen ?_
  refine cseq ?_
  refine cift rfl ?_
  refine cskip ?_
  refine nthen ?_
  refine cseq ?_
  refine cblock ?_
  refine cseq ?_
  refine creg ?_
  refine l1 (ixv Try.underlying24 Try.sizeOf22 Try.isAgg22 rfl rfl (by decide) (by decide) rfl) ?_
  refine l1 (asgi rfl) ?_
  refine lnil ?_
  refine nthen ?_
  refine creg ?_
  refine l1 (mvi rfl) ?_
  refine l1 (mvi rfl) ?_
  refine l1 (min2 rfl rfl) ?_
  first | refine l1 (addn rfl rfl (ru (by omega) (by omega))) ?_ | refine l1 (add rfl rfl) ?_
  refine l1 (asgi rfl) ?_
  refine lnil ?_
  refine nblkN ?_
  refine nthen ?_
  refine creg ?_
  first | refine l1 (addn rfl rfl (ri (by omega) (by omega))) ?_ | refine l1 (add rfl rfl) ?_
  refine l1 (mvi rfl) ?_
  refine lnil ?_
  refine nround (rsucc ?_)
  refine cseq ?_
  refine creg ?_
  refine l1 (lss rfl rfl) ?_
  refine lnil ?_
  refine nthen ?_
  refine cseq ?_
  refine cift rfl ?_
  refine cskip ?_
  refine nthen ?_
  refine cseq ?_
  refine cblock ?_
  refine cseq ?_
  refine creg ?_
  refine l1 (ixv Try.underlying24 Try.sizeOf22 Try.isAgg22 rfl rfl (by decide) (by decide) rfl) ?_
  refine l1 (asgi rfl) ?_
  refine lnil ?_
  refine nthen ?_
  refine creg ?_
  refine l1 (mvi rfl) ?_
  refine l1 (mvi rfl) ?_
  refine l1 (min2 rfl rfl) ?_
  first | refine l1 (addn rfl rfl (ru (by omega) (by omega))) ?_ | refine l1 (add rfl rfl) ?_
  refine l1 (asgi rfl) ?_
  refine lnil ?_
  refine nblkN ?_
  refine nthen ?_
  refine creg ?_
  first | refine l1 (addn rfl rfl (ri (by omega) (by omega))) ?_ | refine l1 (add rfl rfl) ?_
  refine l1 (mvi rfl) ?_
  refine lnil ?_
  refine nround (rsucc ?_)
  refine cseq ?_
  refine creg ?_
  refine l1 (lss rfl rfl) ?_
  refine lnil ?_
  refine nthen ?_
  refine cseq ?_
  refine ciff rfl ?_
  refine cexit ?_
  refine nthenE ?_
  refine nroundE ?_
  refine nblkE ?_
  refine nthen ?_
  refine cseq ?_
  refine creg ?_
  refine l1 (mvi rfl) ?_
  refine l1 (asgi rfl) ?_
  refine lnil ?_
  refine nthen ?_
  refine cret ?_
  exact fin1 rfl rfl

theorem bk24a : ∀ w, (Go.Instr.build 24 #[(0, .int .u64 1), (1, .int .u64 2)]).run Try.prog w = .ok (.agg (encV (fun i => bif Nat.beq i 0 then 1 else bif Nat.beq i 1 then 2 else 0)).toArray) w := fun w => by kernel_rfl
theorem bk24b : ∀ w, (Go.Instr.build 24 #[(0, .int .u64 1)]).run Try.prog w = .ok (.agg (encV (fun i => bif Nat.beq i 0 then 1 else 0)).toArray) w := fun w => by kernel_rfl
theorem bk24z : ∀ w, (Go.Instr.build 24 #[]).run Try.prog w = .ok (.agg (encV (fun i => 0)).toArray) w := fun w => by kernel_rfl

theorem awake14_calls  (w : World) : Calls Try.prog 24 #[] w (Ret (.bool true) w) := by
  refine fn_calls (n := 10) Try.func24 rfl rfl (lb rfl) ?_
  refine cseq ?_
  refine creg ?_
  refine l1 (asgb rfl) ?_
  refine lnil ?_
  refine nthen ?_
  refine cseq ?_
  refine creg ?_
  refine l1 (bld0 bk24z) ?_
  refine l1 (bldk rfl bk24a) ?_
  refine l1 (cl hb25 rfl (mc rfl (mc rfl mn)) (fun w hw => missing_calls _ _ w)) ?_
  refine l1 (eql rfl rfl) ?_
  refine l1 (mvb rfl) ?_
  refine l1g rfl (gwt rfl) (fun h => bldk rfl bk24b) ?_
  refine l1g rfl (gwt rfl) (fun h => bld0 bk24z) ?_
  refine l1g rfl (gwt rfl) (fun h => cl hb23 rfl (mc (gvt h) (mc (gvt h) mn)) (fun w hw => great_calls _ _ w)) ?_
  refine l1 (pk_and rfl rfl rfl) ?_
  refine l1 (asgb rfl) ?_
  refine lnil ?_
  refine nthen ?_
  refine cret ?_
  exact fin1 rfl rfl

theorem rgreat_calls (a b : Vec) (w : World) : Calls Try.prog 26 #[.agg (encV a).toArray, .agg (encV b).toArray] w (Ret (.bool (rgreatV a b)) w) := by
  refine fn_calls (n := 17) Try.func26 rfl rfl (lb rfl) ?_
  refine cseq ?_
  refine creg ?_
  refine lbxa rfl (fun b1 => ?_)
  refine lbxa rfl (fun b2 => ?_)
  refine l1 (asgb rfl) ?_
  refine lnil ?_
  refine nthen ?_
  refine cseq ?_
  refine cseq ?_
  refine creg ?_
  refine l1 (asgi rfl) ?_
  refine lnil ?_
  refine nthen ?_
  refine cblock ?_
  refine cloopN 7 ?_
  refine rsucc ?_
  refine cseq ?_
  refine cseq ?_
  refine creg ?_
  refine l1 (mvi rfl) ?_
  refine l1 (lss rfl rfl) ?_
  refine lnil ?_
  refine nthen ?_
  refine cift rfl ?_
  refine cskip ?_
  refine nthen ?_
  refine cseq ?_
  refine cblock ?_
  refine cseq ?_
  refine cregq mo (by kernel_rfl) ?_
  refine q1 (mvi rfl) ?_
  refine q1 (ia ar24 rfl rfl (by decide) (by decide)) ?_
  refine q1 (ldc 0 Try.isAgg22 rfl rfl rfl) ?_
  refine q1 (mvi rfl) ?_
  refine q1 (ia ar24 rfl rfl (by decide) (by decide)) ?_
  refine q1 (ldc 1 Try.isAgg22 rfl rfl rfl) ?_
  refine q1 (lss rfl rfl) ?_
  refine qnil ?_
  refine nthen ?_
  refine cif rfl (fun h1 => ?_) (fun h1 => ?_)
  · skip
    refine cseq ?_
    refine creg ?_
    refine l1 (asgb rfl) ?_
    refine lnil ?_
    refine nthen ?_
    refine cret ?_
    refine nblkR ?_
    refine nthenR ?_
    refine nroundR ?_
    refine nblkR ?_
    refine nthenR ?_
    exact fin1b rfl rfl (by first | rfl | (simp only [rgreatV, h1, cond_true, cond_false]; done))
  · skip
    refine cskip ?_
    refine nblkN ?_
    refine nthen ?_
    refine creg ?_
    refine l1 (mvi rfl) ?_
    first | refine l1 (addn rfl rfl (ri (by omega) (by omega))) ?_ | refine l1 (add rfl rfl) ?_
    refine l1 (asgi rfl) ?_
    refine lnil ?_
    refine nround (rsucc ?_)
    refine cseq ?_
    refine cseq ?_
    refine creg ?_
    refine l1 (mvi rfl) ?_
    refine l1 (lss rfl rfl) ?_
    refine lnil ?_
    refine nthen ?_
    refine cift rfl ?_
    refine cskip ?_
    refine nthen ?_
    refine cseq ?_
    refine cblock ?_
    refine cseq ?_
    refine cregq mo (by kernel_rfl) ?_
    refine q1 (mvi rfl) ?_
    refine q1 (ia ar24 rfl rfl (by decide) (by decide)) ?_
    refine q1 (ldc 0 Try.isAgg22 rfl rfl rfl) ?_
    refine q1 (mvi rfl) ?_
    refine q1 (ia ar24 rfl rfl (by decide) (by decide)) ?_
    refine q1 (ldc 1 Try.isAgg22 rfl rfl rfl) ?_
    refine q1 (lss rfl rfl) ?_
    refine qnil ?_
    refine nthen ?_
    refine cif rfl (fun h2 => ?_) (fun h2 => ?_)
    · skip
      refine cseq ?_
      refine creg ?_
      refine l1 (asgb rfl) ?_
      refine lnil ?_
      refine nthen ?_
      refine cret ?_
      refine nblkR ?_
      refine nthenR ?_
      refine nroundR ?_
      refine nblkR ?_
      refine nthenR ?_
      exact fin1b rfl rfl (by first | rfl | (simp only [rgreatV, h1, h2, cond_true, cond_false]; done))
    · skip
      refine cskip ?_
      refine nblkN ?_
      refine nthen ?_
      refine creg ?_
      refine l1 (mvi rfl) ?_
      first | refine l1 (addn rfl rfl (ri (by omega) (by omega))) ?_ | refine l1 (add rfl rfl) ?_
      refine l1 (asgi rfl) ?_
      refine lnil ?_
      refine nround (rsucc ?_)
      refine cseq ?_
      refine cseq ?_
      refine creg ?_
      refine l1 (mvi rfl) ?_
      refine l1 (lss rfl rfl) ?_
      refine lnil ?_
      refine nthen ?_
      refine cift rfl ?_
      refine cskip ?_
      refine nthen ?_
      refine cseq ?_
      refine cblock ?_
      refine cseq ?_
      refine cregq mo (by kernel_rfl) ?_
      refine q1 (mvi rfl) ?_
      refine q1 (ia ar24 rfl rfl (by decide) (by decide)) ?_
      refine q1 (ldc 0 Try.isAgg22 rfl rfl rfl) ?_
      refine q1 (mvi rfl) ?_
      refine q1 (ia ar24 rfl rfl (by decide) (by decide)) ?_
      refine q1 (ldc 1 Try.isAgg22 rfl rfl rfl) ?_
      refine q1 (lss rfl rfl) ?_
      refine qnil ?_
      refine nthen ?_
      refine cif rfl (fun h3 => ?_) (fun h3 => ?_)
      · skip
        refine cseq ?_
        refine creg ?_
        refine l1 (asgb rfl) ?_
        refine lnil ?_
        refine nthen ?_
        refine cret ?_
        refine nblkR ?_
        refine nthenR ?_
        refine nroundR ?_
        refine nblkR ?_
        refine nthenR ?_
        exact fin1b rfl rfl (by first | rfl | (simp only [rgreatV, h1, h2, h3, cond_true, cond_false]; done))
      · skip
        refine cskip ?_
        refine nblkN ?_
        refine nthen ?_
        refine creg ?_
        refine l1 (mvi rfl) ?_
        first | refine l1 (addn rfl rfl (ri (by omega) (by omega))) ?_ | refine l1 (add rfl rfl) ?_
        refine l1 (asgi rfl) ?_
        refine lnil ?_
        refine nround (rsucc ?_)
        refine cseq ?_
        refine cseq ?_
        refine creg ?_
        refine l1 (mvi rfl) ?_
        refine l1 (lss rfl rfl) ?_
        refine lnil ?_
        refine nthen ?_
        refine cift rfl ?_
        refine cskip ?_
        refine nthen ?_
        refine cseq ?_
        refine cblock ?_
        refine cseq ?_
        refine cregq mo (by kernel_rfl) ?_
        refine q1 (mvi rfl) ?_
        refine q1 (ia ar24 rfl rfl (by decide) (by decide)) ?_
        refine q1 (ldc 0 Try.isAgg22 rfl rfl rfl) ?_
        refine q1 (mvi rfl) ?_
        refine q1 (ia ar24 rfl rfl (by decide) (by decide)) ?_
        refine q1 (ldc 1 Try.isAgg22 rfl rfl rfl) ?_
        refine q1 (lss rfl rfl) ?_
        refine qnil ?_
        refine nthen ?_
        refine cif rfl (fun h4 => ?_) (fun h4 => ?_)
        · skip
          refine cseq ?_
          refine creg ?_
          refine l1 (asgb rfl) ?_
          refine lnil ?_
          refine nthen ?_
          refine cret ?_
          refine nblkR ?_
          refine nthenR ?_
          refine nroundR ?_
          refine nblkR ?_
          refine nthenR ?_
          exact fin1b rfl rfl (by first | rfl | (simp only [rgreatV, h1, h2, h3, h4, cond_true, cond_false]; done))
        · skip
          refine cskip ?_
          refine nblkN ?_
          refine nthen ?_
          refine creg ?_
          refine l1 (mvi rfl) ?_
          first | refine l1 (addn rfl rfl (ri (by omega) (by omega))) ?_ | refine l1 (add rfl rfl) ?_
          refine l1 (asgi rfl) ?_
          refine lnil ?_
          refine nround (rsucc ?_)
          refine cseq ?_
          refine cseq ?_
          refine creg ?_
          refine l1 (mvi rfl) ?_
          refine l1 (lss rfl rfl) ?_
          refine lnil ?_
          refine nthen ?_
          refine cift rfl ?_
          refine cskip ?_
          refine nthen ?_
          refine cseq ?_
          refine cblock ?_
          refine cseq ?_
          refine cregq mo (by kernel_rfl) ?_
          refine q1 (mvi rfl) ?_
          refine q1 (ia ar24 rfl rfl (by decide) (by decide)) ?_
          refine q1 (ldc 0 Try.isAgg22 rfl rfl rfl) ?_
          refine q1 (mvi rfl) ?_
          refine q1 (ia ar24 rfl rfl (by decide) (by decide)) ?_
          refine q1 (ldc 1 Try.isAgg22 rfl rfl rfl) ?_
          refine q1 (lss rfl rfl) ?_
          refine qnil ?_
          refine nthen ?_
          refine cif rfl (fun h5 => ?_) (fun h5 => ?_)
          · skip
            refine cseq ?_
            refine creg ?_
            refine l1 (asgb rfl) ?_
            refine lnil ?_
            refine nthen ?_
            refine cret ?_
            refine nblkR ?_
            refine nthenR ?_
            refine nroundR ?_
            refine nblkR ?_
            refine nthenR ?_
            exact fin1b rfl rfl (by first | rfl | (simp only [rgreatV, h1, h2, h3, h4, h5, cond_true, cond_false]; done))
          · skip
            refine cskip ?_
            refine nblkN ?_
            refine nthen ?_
            refine creg ?_
            refine l1 (mvi rfl) ?_
            first | refine l1 (addn rfl rfl (ri (by omega) (by omega))) ?_ | refine l1 (add rfl rfl) ?_
            refine l1 (asgi rfl) ?_
            refine lnil ?_
            refine nround (rsucc ?_)
            refine cseq ?_
            refine cseq ?_
            refine creg ?_
            refine l1 (mvi rfl) ?_
            refine l1 (lss rfl rfl) ?_
            refine lnil ?_
            refine nthen ?_
            refine cift rfl ?_
            refine cskip ?_
            refine nthen ?_
            refine cseq ?_
            refine cblock ?_
            refine cseq ?_
            refine cregq mo (by kernel_rfl) ?_
            refine q1 (mvi rfl) ?_
            refine q1 (ia ar24 rfl rfl (by decide) (by decide)) ?_
            refine q1 (ldc 0 Try.isAgg22 rfl rfl rfl) ?_
            refine q1 (mvi rfl) ?_
            refine q1 (ia ar24 rfl rfl (by decide) (by decide)) ?_
            refine q1 (ldc 1 Try.isAgg22 rfl rfl rfl) ?_
            refine q1 (lss rfl rfl) ?_
            refine qnil ?_
            refine nthen ?_
            refine cif rfl (fun h6 => ?_) (fun h6 => ?_)
            · skip
              refine cseq ?_
              refine creg ?_
              refine l1 (asgb rfl) ?_
              refine lnil ?_
              refine nthen ?_
              refine cret ?_
              refine nblkR ?_
              refine nthenR ?_
              refine nroundR ?_
              refine nblkR ?_
              refine nthenR ?_
              exact fin1b rfl rfl (by first | rfl | (simp only [rgreatV, h1, h2, h3, h4, h5, h6, cond_true, cond_false]; done))
            · skip
              refine cskip ?_
              refine nblkN ?_
              refine nthen ?_
              refine creg ?_
              refine l1 (mvi rfl) ?_
              first | refine l1 (addn rfl rfl (ri (by omega) (by omega))) ?_ | refine l1 (add rfl rfl) ?_
              refine l1 (asgi rfl) ?_
              refine lnil ?_
              refine nround (rsucc ?_)
              refine cseq ?_
              refine cseq ?_
              refine creg ?_
              refine l1 (mvi rfl) ?_
              refine l1 (lss rfl rfl) ?_
              refine lnil ?_
              refine nthen ?_
              refine ciff rfl ?_
              refine cexit ?_
              refine nthenE ?_
              refine nroundE ?_
              refine nblkE ?_
              refine nthen ?_
              refine cseq ?_
              refine creg ?_
              refine l1 (asgb rfl) ?_
              refine lnil ?_
              refine nthen ?_
              refine cret ?_
              exact fin1b rfl rfl (by first | rfl | (simp only [rgreatV, h1, h2, h3, h4, h5, h6, cond_true, cond_false]; done))

set_option maxHeartbeats 4000000 in
theorem joins_law (a b c : Vec) (w : World) : Calls Try.prog 3 #[.agg (encV a).toArray, .agg (encV b).toArray, .agg (encV c).toArray] w (Ret (.bool true) w) := by
  refine fn_calls (n := 65) Try.func3 rfl rfl (lb rfl) ?_
  refine cseq ?_
  refine creg ?_
  refine lbxa rfl (fun b1 => ?_)
  refine lbxa rfl (fun b2 => ?_)
  refine lbxa rfl (fun b3 => ?_)
  refine l1 (asgb rfl) ?_
  refine lnil ?_
  refine nthen ?_
  refine cseq ?_
  refine cregE2 (Eff.mk 6 7 24 [.int .u64 0, .int .u64 0, .int .u64 0, .int .u64 0, .int .u64 0, .int .u64 0] 8 (.tmp 12) (encV (eachV max a b))) (Eff.mk 7 8 24 [.int .u64 0, .int .u64 0, .int .u64 0, .int .u64 0, .int .u64 0, .int .u64 0] 9 (.tmp 15) (encV (eachV min a b))) mo (by kernel_rfl) (by kernel_rfl) ⟨⟨_, _, _, rfl⟩, ⟨_, _, _, rfl, af_any (by kernel_rfl)⟩, ⟨_, Try.zeroValue24, rfl⟩, Try.sizeOf24, rfl, oneA rfl⟩ ⟨⟨_, _, _, rfl⟩, ⟨_, _, _, rfl, af_any (by kernel_rfl)⟩, ⟨_, Try.zeroValue24, rfl⟩, Try.sizeOf24, rfl, oneA rfl⟩ (by kernel_rfl) (by kernel_rfl) (by kernel_rfl) (by kernel_rfl) rfl rfl ?_
  refine t1 rfl (fun T => ldw 0 Try.isAgg24 Try.sizeOf24 rfl rfl rfl) ?_
  refine t1 rfl (fun T => ldw 1 Try.isAgg24 Try.sizeOf24 rfl rfl rfl) ?_
  refine t1 rfl (fun T => cl hb21 rfl (mc rfl (mc rfl mn)) (fun w hw => join_calls _ _ w)) ?_
  refine t1 rfl (fun T => ldw 0 Try.isAgg24 Try.sizeOf24 rfl rfl rfl) ?_
  refine t1 rfl (fun T => ldw 1 Try.isAgg24 Try.sizeOf24 rfl rfl rfl) ?_
  refine t1 rfl (fun T => cl hb22 rfl (mc rfl (mc rfl mn)) (fun w hw => meet_calls _ _ w)) ?_
  refine te 0 rfl rfl ?_
  refine te 1 rfl rfl ?_
  refine ts 0 rfl rfl rfl ?_
  refine ts 1 rfl rfl rfl ?_
  refine tnil ?_
  intro b4 b5
  refine nthen ?_
  refine cseq ?_
  refine creg ?_
  refine l1 (ldw 2 Try.isAgg24 Try.sizeOf24 rfl rfl rfl) ?_
  refine l1 (ldw 0 Try.isAgg24 Try.sizeOf24 rfl rfl rfl) ?_
  refine l1 (cl hb23 rfl (mc rfl (mc rfl mn)) (fun w hw => great_calls _ _ w)) ?_
  refine l1 (mvb rfl) ?_
  refine l1g rfl (gwt rfl) (fun h => ldw 2 Try.isAgg24 Try.sizeOf24 rfl rfl rfl) ?_
  refine l1g rfl (gwt rfl) (fun h => ldw 1 Try.isAgg24 Try.sizeOf24 rfl rfl rfl) ?_
  refine l1g rfl (gwt rfl) (fun h => cl hb23 rfl (mc (gvt h) (mc (gvt h) mn)) (fun w hw => great_calls _ _ w)) ?_
  refine l1 (pk_and rfl rfl rfl) ?_
  refine l1 (asgb rfl) ?_
  refine lnil ?_
  refine nthen ?_
  refine cseq ?_
  refine cregq mo (by kernel_rfl) ?_
  refine q1 (cl hb24 rfl mn (fun w hw => awake14_calls w)) ?_
  refine q1 (mvb rfl) ?_
  refine q1g rfl (gwt rfl) (fun h => ldw 3 Try.isAgg24 Try.sizeOf24 rfl rfl rfl) ?_
  refine q1g rfl (gwt rfl) (fun h => ldw 0 Try.isAgg24 Try.sizeOf24 rfl rfl rfl) ?_
  refine q1g rfl (gwt rfl) (fun h => cl hb23 rfl (mc (gvt h) (mc (gvt h) mn)) (fun w hw => great_calls _ _ w)) ?_
  refine q1 (pk_and rfl rfl rfl) ?_
  refine q1 (mvb rfl) ?_
  refine q1g rfl (gwt rfl) (fun h => ldw 3 Try.isAgg24 Try.sizeOf24 rfl rfl rfl) ?_
  refine q1g rfl (gwt rfl) (fun h => ldw 1 Try.isAgg24 Try.sizeOf24 rfl rfl rfl) ?_
  refine q1g rfl (gwt rfl) (fun h => cl hb23 rfl (mc (gvt h) (mc (gvt h) mn)) (fun w hw => great_calls _ _ w)) ?_
  refine q1 (pk_and rfl rfl rfl) ?_
  refine q1 (mvb rfl) ?_
  refine q1g rfl (gwt rfl) (fun h => ldw 0 Try.isAgg24 Try.sizeOf24 rfl rfl rfl) ?_
  refine q1g rfl (gwt rfl) (fun h => ldw 4 Try.isAgg24 Try.sizeOf24 rfl rfl rfl) ?_
  refine q1g rfl (gwt rfl) (fun h => cl hb23 rfl (mc (gvt h) (mc (gvt h) mn)) (fun w hw => great_calls _ _ w)) ?_
  refine q1 (pk_and rfl rfl rfl) ?_
  refine q1 (mvb rfl) ?_
  refine q1g rfl (gwt rfl) (fun h => ldw 1 Try.isAgg24 Try.sizeOf24 rfl rfl rfl) ?_
  refine q1g rfl (gwt rfl) (fun h => ldw 4 Try.isAgg24 Try.sizeOf24 rfl rfl rfl) ?_
  refine q1g rfl (gwt rfl) (fun h => cl hb23 rfl (mc (gvt h) (mc (gvt h) mn)) (fun w hw => great_calls _ _ w)) ?_
  refine q1 (pk_and rfl rfl rfl) ?_
  refine q1 (mvb rfl) ?_
  refine q1g rfl (gwt rfl) (fun h => mvb rfl) ?_
  refine q1g rfl (gwt rfl) (fun h => ldw 2 Try.isAgg24 Try.sizeOf24 rfl rfl rfl) ?_
  refine q1g rfl (gwt rfl) (fun h => ldw 3 Try.isAgg24 Try.sizeOf24 rfl rfl rfl) ?_
  refine q1g rfl (gwt rfl) (fun h => cl hb23 rfl (mc (gvt h) (mc (gvt h) mn)) (fun w hw => great_calls _ _ w)) ?_
  refine q1g rfl (gwt rfl) (fun h => eqlb Try.underlying4 (gvt h) (gvt h)) ?_
  refine q1 (pk_and rfl rfl rfl) ?_
  refine q1 (mvb rfl) ?_
  refine q1g rfl (gwt rfl) (fun h => ldw 1 Try.isAgg24 Try.sizeOf24 rfl rfl rfl) ?_
  refine q1g rfl (gwt rfl) (fun h => ldw 0 Try.isAgg24 Try.sizeOf24 rfl rfl rfl) ?_
  refine q1g rfl (gwt rfl) (fun h => cl hb21 rfl (mc (gvt h) (mc (gvt h) mn)) (fun w hw => join_calls _ _ w)) ?_
  refine q1g rfl (gwt rfl) (fun h => ldw 3 Try.isAgg24 Try.sizeOf24 rfl rfl rfl) ?_
  refine q1g rfl (gwt rfl) (fun h => eqla (gvt h) (gvt h) (fun w => eql24 _ _ w)) ?_
  refine q1 (pk_and rfl rfl rfl) ?_
  refine q1 (mvb rfl) ?_
  refine q1g rfl (gwt rfl) (fun h => ldw 3 Try.isAgg24 Try.sizeOf24 rfl rfl rfl) ?_
  refine q1g rfl (gwt rfl) (fun h => ldw 0 Try.isAgg24 Try.sizeOf24 rfl rfl rfl) ?_
  refine q1g rfl (gwt rfl) (fun h => cl hb25 rfl (mc (gvt h) (mc (gvt h) mn)) (fun w hw => missing_calls _ _ w)) ?_
  refine q1g rfl (gwt rfl) (fun h => eql (gvt h) rfl) ?_
  refine q1 (pk_and rfl rfl rfl) ?_
  refine q1 (asgb rfl) ?_
  refine qnil ?_
  refine nthen ?_
  refine cret ?_
  exact fin1b rfl rfl (by simp [join_l, join_r, meet_l, meet_r, join_both, join_comm, miss_join])

set_option maxHeartbeats 4000000 in
theorem reckons_law (a b : Vec) (ha : ∀ i, i < 6 → 0 ≤ a i) (w : World) : Calls Try.prog 4 #[.agg (encV a).toArray, .agg (encV b).toArray] w (Ret (.bool true) w) := by
  refine fn_calls (n := 107) Try.func4 rfl rfl (lb rfl) ?_
  refine cseq ?_
  refine creg ?_
  refine lbxa rfl (fun b1 => ?_)
  refine lbxa rfl (fun b2 => ?_)
  refine l1 (asgb rfl) ?_
  refine lnil ?_
  refine nthen ?_
  refine cseq ?_
  refine cregE2 (Eff.mk 6 5 24 [.int .u64 0, .int .u64 0, .int .u64 0, .int .u64 0, .int .u64 0, .int .u64 0] 8 (.tmp 13) (encV (eachV max a b))) (Eff.mk 7 6 24 [.int .u64 0, .int .u64 0, .int .u64 0, .int .u64 0, .int .u64 0, .int .u64 0] 9 (.tmp 16) (encV (eachV min a b))) mo (by kernel_rfl) (by kernel_rfl) ⟨⟨_, _, _, rfl⟩, ⟨_, _, _, rfl, af_any (by kernel_rfl)⟩, ⟨_, Try.zeroValue24, rfl⟩, Try.sizeOf24, rfl, oneA rfl⟩ ⟨⟨_, _, _, rfl⟩, ⟨_, _, _, rfl, af_any (by kernel_rfl)⟩, ⟨_, Try.zeroValue24, rfl⟩, Try.sizeOf24, rfl, oneA rfl⟩ (by kernel_rfl) (by kernel_rfl) (by kernel_rfl) (by kernel_rfl) rfl rfl ?_
  refine t1 rfl (fun T => ldw 0 Try.isAgg24 Try.sizeOf24 rfl rfl rfl) ?_
  refine t1 rfl (fun T => ldw 1 Try.isAgg24 Try.sizeOf24 rfl rfl rfl) ?_
  refine t1 rfl (fun T => cl hb21 rfl (mc rfl (mc rfl mn)) (fun w hw => join_calls _ _ w)) ?_
  refine t1 rfl (fun T => ldw 0 Try.isAgg24 Try.sizeOf24 rfl rfl rfl) ?_
  refine t1 rfl (fun T => ldw 1 Try.isAgg24 Try.sizeOf24 rfl rfl rfl) ?_
  refine t1 rfl (fun T => cl hb22 rfl (mc rfl (mc rfl mn)) (fun w hw => meet_calls _ _ w)) ?_
  refine te 0 rfl rfl ?_
  refine te 1 rfl rfl ?_
  refine ts 0 rfl rfl rfl ?_
  refine ts 1 rfl rfl rfl ?_
  refine tnil ?_
  intro b3 b4
  refine nthen ?_
  refine cseq ?_
  refine creg ?_
  refine l1 (asgi rfl) ?_
  refine l1 (asgi rfl) ?_
  refine lnil ?_
  refine nthen ?_
  refine cseq ?_
  refine creg ?_
  refine l1 (asgb rfl) ?_
  refine lnil ?_
  refine nthen ?_
  refine cseq ?_
  refine cseq ?_
  refine creg ?_
  refine l1 (asgi rfl) ?_
  refine lnil ?_
  refine nthen ?_
  refine cblock ?_
  refine cloopI (σ := Nat) (fun s => [(7, .int .u64 (sumV s (fun i => min (a i) 1048576))), (8, .int .u64 (missR a b s)), (9, .bool (smallR a b s)), (10, .int .i64 (s : Int)), (2, .pointer (some ⟨b1, 0, none⟩)), (3, .pointer (some ⟨b2, 0, none⟩)), (5, .pointer (some ⟨b3, 0, none⟩)), (6, .pointer (some ⟨b4, 0, none⟩))]) (fun s => [⟨b1, encV a, 24⟩, ⟨b2, encV b, 24⟩, ⟨b3, encV (eachV max a b), 24⟩, ⟨b4, encV (eachV min a b), 24⟩]) (fun s => s ≤ 6) (fun s => 6 - s) 0 (Nat.zero_le _) ⟨rfl, rfl, rfl, rfl, rfl, rfl, rfl, rfl, trivial⟩ (List.Sublist.refl _) ?_
  rintro i j hi
  show WC _ _ _ ([⟨b1, encV a, 24⟩, ⟨b2, encV b, 24⟩, ⟨b3, encV (eachV max a b), 24⟩, ⟨b4, encV (eachV min a b), 24⟩]) _ _ (over j [(7, .int .u64 (sumV i (fun i => min (a i) 1048576))), (8, .int .u64 (missR a b i)), (9, .bool (smallR a b i)), (10, .int .i64 (i : Int)), (2, .pointer (some ⟨b1, 0, none⟩)), (3, .pointer (some ⟨b2, 0, none⟩)), (5, .pointer (some ⟨b3, 0, none⟩)), (6, .pointer (some ⟨b4, 0, none⟩))])
  replace hi : i ≤ 6 := hi
  refine cseq ?_
  refine cseq ?_
  refine creg ?_
  refine l1 (mvi rfl) ?_
  refine l1 (lss rfl rfl) ?_
  refine lnil ?_
  refine nthen ?_
  refine cif rfl (fun h1 => ?_) (fun h1 => ?_)
  · have hlt : i < 6 := by (have := dt h1; omega)
    refine cskip ?_
    refine nthen ?_
    refine cseq ?_
    refine cblock ?_
    refine cseq ?_
    refine cseq ?_
    refine cregq mo (by kernel_rfl) ?_
    refine q1 (mvi rfl) ?_
    refine q1 (ia ar24 rfl rfl (by omega) (by omega)) ?_
    refine q1 (ldc 2 Try.isAgg22 rfl rfl (encV_at _ _ hlt)) ?_
    refine q1 (mvi rfl) ?_
    refine q1 (ia ar24 rfl rfl (by omega) (by omega)) ?_
    refine q1 (ldc 0 Try.isAgg22 rfl rfl (encV_at _ _ hlt)) ?_
    refine q1 (mvi rfl) ?_
    refine q1 (ia ar24 rfl rfl (by omega) (by omega)) ?_
    refine q1 (ldc 1 Try.isAgg22 rfl rfl (encV_at _ _ hlt)) ?_
    refine q1 (max2 rfl rfl) ?_
    refine q1 (neq rfl rfl) ?_
    refine q1 (mvb rfl) ?_
    refine q1g rfl (gwf rfl) (fun h => mvi rfl) ?_
    refine q1g rfl (gwf rfl) (fun h => ia ar24 rfl (gvt h) (by omega) (by omega)) ?_
    refine q1g rfl (gwf rfl) (fun h => ldc 3 Try.isAgg22 rfl (gvt h) (encV_at _ _ hlt)) ?_
    refine q1g rfl (gwf rfl) (fun h => mvi rfl) ?_
    refine q1g rfl (gwf rfl) (fun h => ia ar24 rfl (gvt h) (by omega) (by omega)) ?_
    refine q1g rfl (gwf rfl) (fun h => ldc 0 Try.isAgg22 rfl (gvt h) (encV_at _ _ hlt)) ?_
    refine q1g rfl (gwf rfl) (fun h => mvi rfl) ?_
    refine q1g rfl (gwf rfl) (fun h => ia ar24 rfl (gvt h) (by omega) (by omega)) ?_
    refine q1g rfl (gwf rfl) (fun h => ldc 1 Try.isAgg22 rfl (gvt h) (encV_at _ _ hlt)) ?_
    refine q1g rfl (gwf rfl) (fun h => min2 (gvt h) (gvt h)) ?_
    refine q1g rfl (gwf rfl) (fun h => neq (gvt h) (gvt h)) ?_
    refine q1 (pk_or rfl rfl rfl) ?_
    refine qnil ?_
    refine nthen ?_
    refine ciff (bf rfl (by simp [eachV])) ?_
    refine cskip ?_
    refine nthen ?_
    refine cseq ?_
    refine creg ?_
    refine l1 (mvi rfl) ?_
    refine l1 (mvi rfl) ?_
    refine l1 (ia ar24 rfl rfl (by omega) (by omega)) ?_
    refine l1 (ldc 0 Try.isAgg22 rfl rfl (encV_at _ _ hlt)) ?_
    refine l1 (min2 rfl rfl) ?_
    first | refine l1 (addn rfl rfl (ru (by omega) (by omega))) ?_ | refine l1 (add rfl rfl) ?_
    refine l1 (asgi rfl) ?_
    refine lnil ?_
    refine nthen ?_
    refine cseq ?_
    refine creg ?_
    refine l1 (mvb rfl) ?_
    refine l1 (mvb rfl) ?_
    refine l1g rfl (gwt rfl) (fun h => mvi rfl) ?_
    refine l1g rfl (gwt rfl) (fun h => ia ar24 rfl (gvt h) (by omega) (by omega)) ?_
    refine l1g rfl (gwt rfl) (fun h => ldc 0 Try.isAgg22 rfl (gvt h) (encV_at _ _ hlt)) ?_
    refine l1g rfl (gwt rfl) (fun h => leq (gvt h) rfl) ?_
    refine l1 (pk_and rfl rfl rfl) ?_
    refine l1 (mvb rfl) ?_
    refine l1g rfl (gwt rfl) (fun h => mvi rfl) ?_
    refine l1g rfl (gwt rfl) (fun h => ia ar24 rfl (gvt h) (by omega) (by omega)) ?_
    refine l1g rfl (gwt rfl) (fun h => ldc 1 Try.isAgg22 rfl (gvt h) (encV_at _ _ hlt)) ?_
    refine l1g rfl (gwt rfl) (fun h => leq (gvt h) rfl) ?_
    refine l1 (pk_and rfl rfl rfl) ?_
    refine l1 (asgb rfl) ?_
    refine lnil ?_
    refine nthen ?_
    refine cseq ?_
    refine cregq mo (by kernel_rfl) ?_
    refine q1 (mvi rfl) ?_
    refine q1 (ia ar24 rfl rfl (by omega) (by omega)) ?_
    refine q1 (ldc 1 Try.isAgg22 rfl rfl (encV_at _ _ hlt)) ?_
    refine q1 (mvi rfl) ?_
    refine q1 (ia ar24 rfl rfl (by omega) (by omega)) ?_
    refine q1 (ldc 0 Try.isAgg22 rfl rfl (encV_at _ _ hlt)) ?_
    refine q1 (gtr rfl rfl) ?_
    refine qnil ?_
    refine nthen ?_
    refine cif rfl (fun h2 => ?_) (fun h2 => ?_)
    · skip
      refine cregq mo (by kernel_rfl) ?_
      refine q1 (mvi rfl) ?_
      refine q1 (mvi rfl) ?_
      refine q1 (ia ar24 rfl rfl (by omega) (by omega)) ?_
      refine q1 (ldc 1 Try.isAgg22 rfl rfl (encV_at _ _ hlt)) ?_
      refine q1 (mvi rfl) ?_
      refine q1 (ia ar24 rfl rfl (by omega) (by omega)) ?_
      refine q1 (ldc 0 Try.isAgg22 rfl rfl (encV_at _ _ hlt)) ?_
      first | refine q1 (subn rfl rfl (ru (by omega) (by omega))) ?_ | refine q1 (sub rfl rfl) ?_
      first | refine q1 (addn rfl rfl (ru (by omega) (by omega))) ?_ | refine q1 (add rfl rfl) ?_
      refine q1 (asgi rfl) ?_
      refine qnil ?_
      refine nblkN ?_
      refine nthen ?_
      refine creg ?_
      refine l1 (mvi rfl) ?_
      first | refine l1 (addn rfl rfl (ri (by omega) (by omega))) ?_ | refine l1 (add rfl rfl) ?_
      refine l1 (asgi rfl) ?_
      refine lnil ?_
      first | exact nI (i + 1) (by show i + 1 ≤ 6; omega) (by show 6 - (i + 1) < 6 - i; omega) ⟨rfl, (by rw [missR_t h2]; rfl), rfl, rfl, rfl, rfl, rfl, rfl, trivial⟩ (List.Sublist.refl _) | exact nI (i + 1) (by show i + 1 ≤ 6; omega) (by show 6 - (i + 1) < 6 - i; omega) ⟨rfl, (by rw [missR_f h2]; rfl), rfl, rfl, rfl, rfl, rfl, rfl, trivial⟩ (List.Sublist.refl _)
    · skip
      refine cskip ?_
      refine nblkN ?_
      refine nthen ?_
      refine creg ?_
      refine l1 (mvi rfl) ?_
      first | refine l1 (addn rfl rfl (ri (by omega) (by omega))) ?_ | refine l1 (add rfl rfl) ?_
      refine l1 (asgi rfl) ?_
      refine lnil ?_
      first | exact nI (i + 1) (by show i + 1 ≤ 6; omega) (by show 6 - (i + 1) < 6 - i; omega) ⟨rfl, (by rw [missR_t h2]; rfl), rfl, rfl, rfl, rfl, rfl, rfl, trivial⟩ (List.Sublist.refl _) | exact nI (i + 1) (by show i + 1 ≤ 6; omega) (by show 6 - (i + 1) < 6 - i; omega) ⟨rfl, (by rw [missR_f h2]; rfl), rfl, rfl, rfl, rfl, rfl, rfl, trivial⟩ (List.Sublist.refl _)
  · have h6 : i = 6 := by (have := df h1; omega)
    subst h6
    refine cexit ?_
    refine nthenE ?_
    refine nIE ?_
    refine nblkE ?_
    refine nthen ?_
    refine cseq ?_
    refine cregq mo (by kernel_rfl) ?_
    refine q1 (cl hb24 rfl mn (fun w hw => awake14_calls w)) ?_
    refine q1 (mvb rfl) ?_
    refine q1g rfl (gwt rfl) (fun h => ldw 0 Try.isAgg24 Try.sizeOf24 rfl rfl rfl) ?_
    refine q1g rfl (gwt rfl) (fun h => ldw 1 Try.isAgg24 Try.sizeOf24 rfl rfl rfl) ?_
    refine q1g rfl (gwt rfl) (fun h => cl hb23 rfl (mc (gvt h) (mc (gvt h) mn)) (fun w hw => great_calls _ _ w)) ?_
    refine q1g rfl (gwt rfl) (fun h => ldw 0 Try.isAgg24 Try.sizeOf24 rfl rfl rfl) ?_
    refine q1g rfl (gwt rfl) (fun h => ldw 1 Try.isAgg24 Try.sizeOf24 rfl rfl rfl) ?_
    refine q1g rfl (gwt rfl) (fun h => cl hb26 rfl (mc (gvt h) (mc (gvt h) mn)) (fun w hw => rgreat_calls _ _ w)) ?_
    refine q1g rfl (gwt rfl) (fun h => eqlb Try.underlying4 (gvt h) (gvt h)) ?_
    refine q1 (pk_and rfl rfl rfl) ?_
    refine q1 (mvb rfl) ?_
    refine q1g rfl (gwt rfl) (fun h => ldw 0 Try.isAgg24 Try.sizeOf24 rfl rfl rfl) ?_
    refine q1g rfl (gwt rfl) (fun h => cl hb27 rfl (mc (gvt h) mn) (fun w hw => total_calls _ w)) ?_
    refine q1g rfl (gwt rfl) (fun h => mvi rfl) ?_
    refine q1g rfl (gwt rfl) (fun h => eql (gvt h) (gvt h)) ?_
    refine q1 (pk_and rfl rfl rfl) ?_
    refine q1 (mvb rfl) ?_
    refine q1g rfl (gwt rfl) (fun h => mvb rfl) ?_
    refine q1g rfl (gwt rfl) (fun h => nt (gvt h)) ?_
    refine q1g rfl (gwt rfl) (fun h => mvb (gvt h)) ?_
    refine q1g rfl (ggf rfl) (fun h => ldw 0 Try.isAgg24 Try.sizeOf24 rfl rfl rfl) ?_
    refine q1g rfl (ggf rfl) (fun h => ldw 1 Try.isAgg24 Try.sizeOf24 rfl rfl rfl) ?_
    refine q1g rfl (ggf rfl) (fun h => cl hb25 rfl (mc (gvt h) (mc (gvt h) mn)) (fun w hw => missing_calls _ _ w)) ?_
    refine q1g rfl (ggf rfl) (fun h => mvi rfl) ?_
    refine q1g rfl (ggf rfl) (fun h => eql (gvt h) (gvt h)) ?_
    refine q1g rfl (gwt rfl) (fun h => pk_or (gvt h) rfl (gva h)) ?_
    refine q1 (pk_and rfl rfl rfl) ?_
    refine q1 (asgb rfl) ?_
    refine qnil ?_
    refine nthen ?_
    refine cret ?_
    exact fin1b rfl rfl (by rw [rgreat_eq]; simp only [reck_last a b ha]; simp [totV])
end Go.Proofs.Ytkdbjhlkahkobaa
