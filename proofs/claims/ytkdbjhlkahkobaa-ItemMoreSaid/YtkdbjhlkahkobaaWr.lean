/- walks, printed by a program of ours -/
import Derived.Test.YtkdbjhlkahkobaaTy
import Derived.Test.YtkdbjhlkahkobaaDef
import Derived.Test.YtkdbjhlkahkobaaWg
namespace Go.Proofs.Ytkdbjhlkahkobaa
open Jal Go.RowKit
set_option maxRecDepth 100000
def readyH (v : Vec) (x : Hd) : Bool := (formedH x && decide (v (x.writer - 1).toNat = x.seq - 1)) && greatV v x.knows
def rreadyH (v : Vec) (x : Hd) : Bool := bif (!rformedH x || decide (addU (v (x.writer - 1).toNat) 1 ≠ x.seq)) then false else rgreatV v x.knows
theorem vec_at (v : Vec) (i : Nat) (h : i < 6) : (encV v)[0 + i * 1]? = some (.int .u64 (v i)) := by
  have := encV_get v i h; simpa using this

theorem ready_calls (v : Vec) (x : Hd) (w : World) (hx : HdIn w x) (kx : HdOk x) : Calls Try.prog 38 #[.agg (encV v).toArray, .agg (encH x).toArray] w (Ret (.bool (readyH v x)) w) := by
  refine fn_calls (n := 24) Try.func38 rfl rfl (lb rfl) ?_
  refine cseq ?_
  refine creg ?_
  refine lbxa rfl (fun b1 => ?_)
  refine lbxa rfl (fun b2 => ?_)
  refine l1 (asgb rfl) ?_
  refine lnil ?_
  refine nthen ?_
  refine cseq ?_
  refine cregq mo (by kernel_rfl) ?_
  refine q1 (ldw 1 Try.isAgg37 Try.sizeOf37 rfl rfl rfl) ?_
  refine q1 (cl hb76 rfl (mc rfl mn) (fun w hw => hformed_calls _ w (Sl.keptS hx hw) kx)) ?_
  refine q1 (mvb rfl) ?_
  refine q1g rfl (gwt rfl) (fun h => fa fa37_0 rfl) ?_
  refine q1g rfl (gwt rfl) (fun h => ldc 1 Try.isAgg3 rfl (gvt h) rfl) ?_
  refine q1g rfl (gwt rfl) (fun h => subn (gvt h) rfl (ri (by have := formed_w h; omega) (by have := formed_w h; omega))) ?_
  refine q1g rfl (gwt rfl) (fun h => ia ar24 rfl (gvt h) (by have := formed_w h; omega) (by have := formed_w h; omega)) ?_
  refine q1g rfl (gwt rfl) (fun h => ldc 0 Try.isAgg22 rfl (gvt h) (vec_at _ _ (by have := formed_w h; omega))) ?_
  refine q1g rfl (gwt rfl) (fun h => fa fa37_1 rfl) ?_
  refine q1g rfl (gwt rfl) (fun h => ldc 1 Try.isAgg22 rfl (gvt h) rfl) ?_
  refine q1g rfl (gwt rfl) (fun h => subn (gvt h) rfl (ru (by have := formed_w h; omega) (by have := formed_w h; omega))) ?_
  refine q1g rfl (gwt rfl) (fun h => eql (gvt h) (gvt h)) ?_
  refine q1 (pk_and rfl rfl rfl) ?_
  refine q1 (mvb rfl) ?_
  refine q1g rfl (gwt rfl) (fun h => ldw 0 Try.isAgg24 Try.sizeOf24 rfl rfl rfl) ?_
  refine q1g rfl (gwt rfl) (fun h => fa fa37_8 rfl) ?_
  refine q1g rfl (gwt rfl) (fun h => lda 1 Try.isAgg23 Try.sizeOf23 rfl (gvt h) (encH_knows _) rfl) ?_
  refine q1g rfl (gwt rfl) (fun h => cl hb23 rfl (mc (gvt h) (mc (gvt h) mn)) (fun w hw => great_calls _ _ w)) ?_
  refine q1 (pk_and rfl rfl rfl) ?_
  refine q1 (asgb rfl) ?_
  refine qnil ?_
  refine nthen ?_
  refine cret ?_
  exact fin1 rfl rfl

theorem rformed_w {x : Hd} (h : rformedH x = true) : 1 ≤ x.writer ∧ x.writer ≤ 6 ∧ 1 ≤ x.seq ∧ x.seq ≤ 1048576 := by
  apply rplc_no
  cases hp : rplcB x with
  | false => rfl
  | true => simp [rformedH, hp] at h

theorem rready_calls (v : Vec) (x : Hd) (w : World) (hx : HdIn w x) (kx : HdOk x) : Calls Try.prog 39 #[.agg (encV v).toArray, .agg (encH x).toArray] w (Ret (.bool (rreadyH v x)) w) := by
  refine fn_calls (n := 32) Try.func39 rfl rfl (lb rfl) ?_
  refine cseq ?_
  refine creg ?_
  refine lbxa rfl (fun b1 => ?_)
  refine lbxa rfl (fun b2 => ?_)
  refine l1 (asgb rfl) ?_
  refine lnil ?_
  refine nthen ?_
  refine cseq ?_
  refine cseq ?_
  refine cregq mo (by kernel_rfl) ?_
  refine q1 (ldw 1 Try.isAgg37 Try.sizeOf37 rfl rfl rfl) ?_
  refine q1 (cl hb77 rfl (mc rfl mn) (fun w hw => rformed_calls _ w (Sl.keptS hx hw) kx)) ?_
  refine q1 (nt rfl) ?_
  refine q1 (mvb rfl) ?_
  refine q1g rfl (gwf rfl) (fun h => fa fa37_0 rfl) ?_
  refine q1g rfl (gwf rfl) (fun h => ldc 1 Try.isAgg3 rfl (gvt h) rfl) ?_
  refine q1g rfl (gwf rfl) (fun h => subn (gvt h) rfl (ri (by have := rformed_w (by simpa using h); omega) (by have := rformed_w (by simpa using h); omega))) ?_
  refine q1g rfl (gwf rfl) (fun h => ia ar24 rfl (gvt h) (by have := rformed_w (by simpa using h); omega) (by have := rformed_w (by simpa using h); omega)) ?_
  refine q1g rfl (gwf rfl) (fun h => ldc 0 Try.isAgg22 rfl (gvt h) (vec_at _ _ (by have := rformed_w (by simpa using h); omega))) ?_
  refine q1g rfl (gwf rfl) (fun h => add (gvt h) rfl) ?_
  refine q1g rfl (gwf rfl) (fun h => fa fa37_1 rfl) ?_
  refine q1g rfl (gwf rfl) (fun h => ldc 1 Try.isAgg22 rfl (gvt h) rfl) ?_
  refine q1g rfl (gwf rfl) (fun h => neq (gvt h) (gvt h)) ?_
  refine q1 (pk_or rfl rfl rfl) ?_
  refine qnil ?_
  refine nthen ?_
  refine cif rfl (fun h1 => ?_) (fun h1 => ?_)
  · change (!rformedH x || decide (addU (v (x.writer - 1).toNat) 1 ≠ x.seq)) = _ at h1
    refine cseq ?_
    refine creg ?_
    refine l1 (asgb rfl) ?_
    refine lnil ?_
    refine nthen ?_
    refine cret ?_
    refine nthenR ?_
    exact fin1b rfl rfl (by first | rfl | (simp only [rreadyH, rgreatV, h1, cond_true, cond_false]; done))
  · change (!rformedH x || decide (addU (v (x.writer - 1).toNat) 1 ≠ x.seq)) = _ at h1
    refine cskip ?_
    refine nthen ?_
    refine cseq ?_
    refine cseq ?_
    refine creg ?_
    refine l1 (asgi rfl) ?_
    refine lnil ?_
    refine nthen ?_
    refine cblock ?_
    refine cloopN 7 ?_
    refine rsucc ?_
    refine cseq ?_
    refine cseq ?_
    refine creg ?_
    refine l1 (mvi rfl) ?_
    refine l1 (lss rfl rfl) ?_
    refine lnil ?_
    refine nthen ?_
    refine cift rfl ?_
    refine cskip ?_
    refine nthen ?_
    refine cseq ?_
    refine cblock ?_
    refine cseq ?_
    refine cregq mo (by kernel_rfl) ?_
    refine q1 (mvi rfl) ?_
    refine q1 (ia ar24 rfl rfl (by decide) (by decide)) ?_
    refine q1 (ldc 0 Try.isAgg22 rfl rfl rfl) ?_
    refine q1 (mvi rfl) ?_
    refine q1 (fa fa37_8 rfl) ?_
    refine q1 (ia ar23 rfl rfl (by decide) (by decide)) ?_
    refine q1 (ldc 1 Try.isAgg22 rfl rfl rfl) ?_
    refine q1 (lss rfl rfl) ?_
    refine qnil ?_
    refine nthen ?_
    refine cif rfl (fun h2 => ?_) (fun h2 => ?_)
    · skip
      refine cseq ?_
      refine creg ?_
      refine l1 (asgb rfl) ?_
      refine lnil ?_
      refine nthen ?_
      refine cret ?_
      refine nblkR ?_
      refine nthenR ?_
      refine nroundR ?_
      refine nblkR ?_
      refine nthenR ?_
      exact fin1b rfl rfl (by first | rfl | (simp only [rreadyH, rgreatV, h1, h2, cond_true, cond_false]; done))
    · skip
      refine cskip ?_
      refine nblkN ?_
      refine nthen ?_
      refine creg ?_
      refine l1 (mvi rfl) ?_
      first | refine l1 (addn rfl rfl (ri (by omega) (by omega))) ?_ | refine l1 (add rfl rfl) ?_
      refine l1 (asgi rfl) ?_
      refine lnil ?_
      refine nround (rsucc ?_)
      refine cseq ?_
      refine cseq ?_
      refine creg ?_
      refine l1 (mvi rfl) ?_
      refine l1 (lss rfl rfl) ?_
      refine lnil ?_
      refine nthen ?_
      refine cift rfl ?_
      refine cskip ?_
      refine nthen ?_
      refine cseq ?_
      refine cblock ?_
      refine cseq ?_
      refine cregq mo (by kernel_rfl) ?_
      refine q1 (mvi rfl) ?_
      refine q1 (ia ar24 rfl rfl (by decide) (by decide)) ?_
      refine q1 (ldc 0 Try.isAgg22 rfl rfl rfl) ?_
      refine q1 (mvi rfl) ?_
      refine q1 (fa fa37_8 rfl) ?_
      refine q1 (ia ar23 rfl rfl (by decide) (by decide)) ?_
      refine q1 (ldc 1 Try.isAgg22 rfl rfl rfl) ?_
      refine q1 (lss rfl rfl) ?_
      refine qnil ?_
      refine nthen ?_
      refine cif rfl (fun h3 => ?_) (fun h3 => ?_)
      · skip
        refine cseq ?_
        refine creg ?_
        refine l1 (asgb rfl) ?_
        refine lnil ?_
        refine nthen ?_
        refine cret ?_
        refine nblkR ?_
        refine nthenR ?_
        refine nroundR ?_
        refine nblkR ?_
        refine nthenR ?_
        exact fin1b rfl rfl (by first | rfl | (simp only [rreadyH, rgreatV, h1, h2, h3, cond_true, cond_false]; done))
      · skip
        refine cskip ?_
        refine nblkN ?_
        refine nthen ?_
        refine creg ?_
        refine l1 (mvi rfl) ?_
        first | refine l1 (addn rfl rfl (ri (by omega) (by omega))) ?_ | refine l1 (add rfl rfl) ?_
        refine l1 (asgi rfl) ?_
        refine lnil ?_
        refine nround (rsucc ?_)
        refine cseq ?_
        refine cseq ?_
        refine creg ?_
        refine l1 (mvi rfl) ?_
        refine l1 (lss rfl rfl) ?_
        refine lnil ?_
        refine nthen ?_
        refine cift rfl ?_
        refine cskip ?_
        refine nthen ?_
        refine cseq ?_
        refine cblock ?_
        refine cseq ?_
        refine cregq mo (by kernel_rfl) ?_
        refine q1 (mvi rfl) ?_
        refine q1 (ia ar24 rfl rfl (by decide) (by decide)) ?_
        refine q1 (ldc 0 Try.isAgg22 rfl rfl rfl) ?_
        refine q1 (mvi rfl) ?_
        refine q1 (fa fa37_8 rfl) ?_
        refine q1 (ia ar23 rfl rfl (by decide) (by decide)) ?_
        refine q1 (ldc 1 Try.isAgg22 rfl rfl rfl) ?_
        refine q1 (lss rfl rfl) ?_
        refine qnil ?_
        refine nthen ?_
        refine cif rfl (fun h4 => ?_) (fun h4 => ?_)
        · skip
          refine cseq ?_
          refine creg ?_
          refine l1 (asgb rfl) ?_
          refine lnil ?_
          refine nthen ?_
          refine cret ?_
          refine nblkR ?_
          refine nthenR ?_
          refine nroundR ?_
          refine nblkR ?_
          refine nthenR ?_
          exact fin1b rfl rfl (by first | rfl | (simp only [rreadyH, rgreatV, h1, h2, h3, h4, cond_true, cond_false]; done))
        · skip
          refine cskip ?_
          refine nblkN ?_
          refine nthen ?_
          refine creg ?_
          refine l1 (mvi rfl) ?_
          first | refine l1 (addn rfl rfl (ri (by omega) (by omega))) ?_ | refine l1 (add rfl rfl) ?_
          refine l1 (asgi rfl) ?_
          refine lnil ?_
          refine nround (rsucc ?_)
          refine cseq ?_
          refine cseq ?_
          refine creg ?_
          refine l1 (mvi rfl) ?_
          refine l1 (lss rfl rfl) ?_
          refine lnil ?_
          refine nthen ?_
          refine cift rfl ?_
          refine cskip ?_
          refine nthen ?_
          refine cseq ?_
          refine cblock ?_
          refine cseq ?_
          refine cregq mo (by kernel_rfl) ?_
          refine q1 (mvi rfl) ?_
          refine q1 (ia ar24 rfl rfl (by decide) (by decide)) ?_
          refine q1 (ldc 0 Try.isAgg22 rfl rfl rfl) ?_
          refine q1 (mvi rfl) ?_
          refine q1 (fa fa37_8 rfl) ?_
          refine q1 (ia ar23 rfl rfl (by decide) (by decide)) ?_
          refine q1 (ldc 1 Try.isAgg22 rfl rfl rfl) ?_
          refine q1 (lss rfl rfl) ?_
          refine qnil ?_
          refine nthen ?_
          refine cif rfl (fun h5 => ?_) (fun h5 => ?_)
          · skip
            refine cseq ?_
            refine creg ?_
            refine l1 (asgb rfl) ?_
            refine lnil ?_
            refine nthen ?_
            refine cret ?_
            refine nblkR ?_
            refine nthenR ?_
            refine nroundR ?_
            refine nblkR ?_
            refine nthenR ?_
            exact fin1b rfl rfl (by first | rfl | (simp only [rreadyH, rgreatV, h1, h2, h3, h4, h5, cond_true, cond_false]; done))
          · skip
            refine cskip ?_
            refine nblkN ?_
            refine nthen ?_
            refine creg ?_
            refine l1 (mvi rfl) ?_
            first | refine l1 (addn rfl rfl (ri (by omega) (by omega))) ?_ | refine l1 (add rfl rfl) ?_
            refine l1 (asgi rfl) ?_
            refine lnil ?_
            refine nround (rsucc ?_)
            refine cseq ?_
            refine cseq ?_
            refine creg ?_
            refine l1 (mvi rfl) ?_
            refine l1 (lss rfl rfl) ?_
            refine lnil ?_
            refine nthen ?_
            refine cift rfl ?_
            refine cskip ?_
            refine nthen ?_
            refine cseq ?_
            refine cblock ?_
            refine cseq ?_
            refine cregq mo (by kernel_rfl) ?_
            refine q1 (mvi rfl) ?_
            refine q1 (ia ar24 rfl rfl (by decide) (by decide)) ?_
            refine q1 (ldc 0 Try.isAgg22 rfl rfl rfl) ?_
            refine q1 (mvi rfl) ?_
            refine q1 (fa fa37_8 rfl) ?_
            refine q1 (ia ar23 rfl rfl (by decide) (by decide)) ?_
            refine q1 (ldc 1 Try.isAgg22 rfl rfl rfl) ?_
            refine q1 (lss rfl rfl) ?_
            refine qnil ?_
            refine nthen ?_
            refine cif rfl (fun h6 => ?_) (fun h6 => ?_)
            · skip
              refine cseq ?_
              refine creg ?_
              refine l1 (asgb rfl) ?_
              refine lnil ?_
              refine nthen ?_
              refine cret ?_
              refine nblkR ?_
              refine nthenR ?_
              refine nroundR ?_
              refine nblkR ?_
              refine nthenR ?_
              exact fin1b rfl rfl (by first | rfl | (simp only [rreadyH, rgreatV, h1, h2, h3, h4, h5, h6, cond_true, cond_false]; done))
            · skip
              refine cskip ?_
              refine nblkN ?_
              refine nthen ?_
              refine creg ?_
              refine l1 (mvi rfl) ?_
              first | refine l1 (addn rfl rfl (ri (by omega) (by omega))) ?_ | refine l1 (add rfl rfl) ?_
              refine l1 (asgi rfl) ?_
              refine lnil ?_
              refine nround (rsucc ?_)
              refine cseq ?_
              refine cseq ?_
              refine creg ?_
              refine l1 (mvi rfl) ?_
              refine l1 (lss rfl rfl) ?_
              refine lnil ?_
              refine nthen ?_
              refine cift rfl ?_
              refine cskip ?_
              refine nthen ?_
              refine cseq ?_
              refine cblock ?_
              refine cseq ?_
              refine cregq mo (by kernel_rfl) ?_
              refine q1 (mvi rfl) ?_
              refine q1 (ia ar24 rfl rfl (by decide) (by decide)) ?_
              refine q1 (ldc 0 Try.isAgg22 rfl rfl rfl) ?_
              refine q1 (mvi rfl) ?_
              refine q1 (fa fa37_8 rfl) ?_
              refine q1 (ia ar23 rfl rfl (by decide) (by decide)) ?_
              refine q1 (ldc 1 Try.isAgg22 rfl rfl rfl) ?_
              refine q1 (lss rfl rfl) ?_
              refine qnil ?_
              refine nthen ?_
              refine cif rfl (fun h7 => ?_) (fun h7 => ?_)
              · skip
                refine cseq ?_
                refine creg ?_
                refine l1 (asgb rfl) ?_
                refine lnil ?_
                refine nthen ?_
                refine cret ?_
                refine nblkR ?_
                refine nthenR ?_
                refine nroundR ?_
                refine nblkR ?_
                refine nthenR ?_
                exact fin1b rfl rfl (by first | rfl | (simp only [rreadyH, rgreatV, h1, h2, h3, h4, h5, h6, h7, cond_true, cond_false]; done))
              · skip
                refine cskip ?_
                refine nblkN ?_
                refine nthen ?_
                refine creg ?_
                refine l1 (mvi rfl) ?_
                first | refine l1 (addn rfl rfl (ri (by omega) (by omega))) ?_ | refine l1 (add rfl rfl) ?_
                refine l1 (asgi rfl) ?_
                refine lnil ?_
                refine nround (rsucc ?_)
                refine cseq ?_
                refine cseq ?_
                refine creg ?_
                refine l1 (mvi rfl) ?_
                refine l1 (lss rfl rfl) ?_
                refine lnil ?_
                refine nthen ?_
                refine ciff rfl ?_
                refine cexit ?_
                refine nthenE ?_
                refine nroundE ?_
                refine nblkE ?_
                refine nthen ?_
                refine cseq ?_
                refine creg ?_
                refine l1 (asgb rfl) ?_
                refine lnil ?_
                refine nthen ?_
                refine cret ?_
                exact fin1b rfl rfl (by first | rfl | (simp only [rreadyH, rgreatV, h1, h2, h3, h4, h5, h6, h7, cond_true, cond_false]; done))

theorem isB_iff {n : Int} (hn : I64 n) : isB n = true ↔ n = 64 ∨ n = 128 ∨ n = 256 ∨ n = 512 ∨ n = 1024 ∨ n = 2048 := by
  by_cases h : n = -9223372036854775808
  · subst h; decide
  have hw : IntKind.i64.wrap (n - 1) = n - 1 := ri (by have := hn.1; omega) (by have := hn.2; omega)
  unfold isB bucketE bucketB
  rw [hw]
  simp only [cond_eq_ite, decide_eq_true_eq, Bool.and_eq_true]
  by_cases h0 : n - 1 < 0
  · simp [h0]; omega
  by_cases h1 : n - 1 < 64
  · simp [h0, h1]; omega
  by_cases h2 : n - 1 < 128
  · simp [h0, h1, h2]; omega
  by_cases h3 : n - 1 < 256
  · simp [h0, h1, h2, h3]; omega
  by_cases h4 : n - 1 < 512
  · simp [h0, h1, h2, h3, h4]; omega
  by_cases h5 : n - 1 < 1024
  · simp [h0, h1, h2, h3, h4, h5]; omega
  by_cases h6 : n - 1 < 2048
  · simp [h0, h1, h2, h3, h4, h5, h6]; omega
  · simp [h0, h1, h2, h3, h4, h5, h6]; omega
theorem rsize_iff {x : Hd} : rsizeB x = true ↔ x.size - 16 = 64 ∨ x.size - 16 = 128 ∨ x.size - 16 = 256 ∨ x.size - 16 = 512 ∨ x.size - 16 = 1024 ∨ x.size - 16 = 2048 := by
  unfold rsizeB rbucketB
  simp only [cond_eq_ite, decide_eq_true_eq, Bool.and_eq_true]
  by_cases h1 : x.size - 17 < 64
  · simp [h1]; omega
  by_cases h2 : x.size - 17 < 128
  · simp [h1, h2]; omega
  by_cases h3 : x.size - 17 < 256
  · simp [h1, h2, h3]; omega
  by_cases h4 : x.size - 17 < 512
  · simp [h1, h2, h3, h4]; omega
  by_cases h5 : x.size - 17 < 1024
  · simp [h1, h2, h3, h4, h5]; omega
  by_cases h6 : x.size - 17 < 2048
  · simp [h1, h2, h3, h4, h5, h6]; omega
  · simp [h1, h2, h3, h4, h5, h6]; omega
theorem wrap16 {s : Int} (h : I64 s) : IntKind.i64.wrap (s - 16) = s - 16 ∨ (IntKind.i64.wrap (s - 16) > 100000 ∧ s < 0 ∧ I64 (IntKind.i64.wrap (s - 16))) := by
  obtain ⟨h1, h2⟩ := h
  unfold I64
  simp only [IntKind.wrap, IntKind.signed, IntKind.bits]
  simp
  omega
theorem size_eq {x : Hd} (h : I64 x.size) : isB (IntKind.i64.wrap (x.size - 16)) = rsizeB x := by
  apply Bool.eq_iff_iff.2
  rw [rsize_iff]
  rcases wrap16 h with hw | ⟨hw, hn, hi⟩
  · by_cases hs : -9223372036854775808 ≤ x.size - 16
    · rw [hw, isB_iff ⟨hs, by have := h.2; omega⟩]
    · exfalso
      have h1 : -9223372036854775808 ≤ IntKind.i64.wrap (x.size - 16) := by simp [IntKind.wrap, IntKind.signed, IntKind.bits]; omega
      rw [hw] at h1; exact hs h1
  · rw [isB_iff hi]; omega
theorem rformed_eq {x : Hd} (h : I64 x.size) : rformedH x = formedH x := by
  have hs := size_eq h
  unfold rformedH formedH placedB plcB rplcB knowB
  rw [hs]
  generalize sortedT x.tn x.tok = so
  generalize rsizeB x = rs
  generalize firstB x = fi
  generalize plainB x = pl
  generalize decide (x.writer < 1) = a1
  generalize decide (x.writer > 6) = a2
  generalize decide (x.seq < 1) = a3
  generalize decide (x.seq > 1048576) = a4
  generalize decide (x.epoch < 0) = a5
  generalize decide (x.epoch > 255) = a6
  generalize decide (x.time > 1099511627776) = a7
  generalize decide ((x.tn : Int) > 8) = a8
  generalize decide (x.knows 0 > 1048576) = k0
  generalize decide (x.knows 1 > 1048576) = k1
  generalize decide (x.knows 2 > 1048576) = k2
  generalize decide (x.knows 3 > 1048576) = k3
  generalize decide (x.knows 4 > 1048576) = k4
  generalize decide (x.knows 5 > 1048576) = k5
  have e : decide (x.knows (x.writer - 1).toNat ≠ x.seq - 1) = !decide (x.knows (x.writer - 1).toNat = x.seq - 1) := by simp
  rw [e]
  generalize decide (x.knows (x.writer - 1).toNat = x.seq - 1) = q
  cases a1 <;> cases a2 <;> cases a3 <;> cases a4 <;> cases a5 <;> cases a6 <;> cases a7 <;> try rfl
  cases a8 <;> cases so <;> cases q <;> cases k0 <;> cases k1 <;> cases k2 <;> cases k3 <;> cases k4 <;> cases k5 <;> cases fi <;> cases pl <;> cases rs <;> rfl
theorem rready_eq (v : Vec) (x : Hd) (hv : ∀ i, i < 6 → U64 (v i)) (kx : HdOk x) : rreadyH v x = readyH v x := by
  unfold rreadyH readyH
  rw [rformed_eq kx.z, rgreat_eq]
  cases hf : formedH x with
  | false => rfl
  | true =>
    have hw := formed_w hf
    have hu := hv (x.writer - 1).toNat (by omega)
    have e : decide (addU (v (x.writer - 1).toNat) 1 ≠ x.seq) = !decide (v (x.writer - 1).toNat = x.seq - 1) := by
      have hu1 := hu.1; have hu2 := hu.2
      by_cases h : v (x.writer - 1).toNat = 18446744073709551615
      · rw [h]
        have h0 : addU 18446744073709551615 1 = 0 := by decide
        rw [h0]
        simp; omega
      · rw [addU_small (by omega) (by omega)]
        apply Bool.eq_iff_iff.2
        rw [Bool.not_eq_true', decide_eq_true_eq, decide_eq_false_iff_not]
        omega
    rw [e]
    cases decide (v (x.writer - 1).toNat = x.seq - 1) <;> rfl

set_option maxHeartbeats 1000000 in
theorem ready_law (v : Vec) (hv : ∀ i, i < 6 → U64 (v i)) (x : Hd) (w : World) (hx : HdIn w x) (kx : HdOk x) : Calls Try.prog 9 #[.agg (encV v).toArray, .agg (encH x).toArray] w (Ret (.bool true) w) := by
  refine fn_calls (n := 21) Try.func9 rfl rfl (lb rfl) ?_
  refine cseq ?_
  refine creg ?_
  refine lbxa rfl (fun b1 => ?_)
  refine lbxa rfl (fun b2 => ?_)
  refine l1 (asgb rfl) ?_
  refine lnil ?_
  refine nthen ?_
  refine cseq ?_
  refine cregq mo (by kernel_rfl) ?_
  refine q1 (cl hb24 rfl mn (fun w hw => awake14_calls w)) ?_
  refine q1 (mvb rfl) ?_
  refine q1g rfl (gwt rfl) (fun h => fa fa37_7 rfl) ?_
  refine q1g rfl (gwt rfl) (fun h => ldc 1 Try.isAgg35 rfl (gvt h) rfl) ?_
  refine q1g rfl (gwt rfl) (fun h => lens sl35 rfl (gvt h)) ?_
  refine q1g rfl (gwt rfl) (fun h => gtr (gvt h) rfl) ?_
  refine q1g rfl (gwt rfl) (fun h => mvb (gvt h)) ?_
  refine q1g rfl (ggf rfl) (fun h => ldw 0 Try.isAgg24 Try.sizeOf24 rfl rfl rfl) ?_
  refine q1g rfl (ggf rfl) (fun h => ldw 1 Try.isAgg37 Try.sizeOf37 rfl rfl rfl) ?_
  refine q1g rfl (ggf rfl) (fun h => cl hb38 rfl (mc (gvt h) (mc (gvt h) mn)) (fun w hw => ready_calls _ _ w (Sl.keptS hx hw) kx)) ?_
  refine q1g rfl (ggf rfl) (fun h => ldw 0 Try.isAgg24 Try.sizeOf24 rfl rfl rfl) ?_
  refine q1g rfl (ggf rfl) (fun h => ldw 1 Try.isAgg37 Try.sizeOf37 rfl rfl rfl) ?_
  refine q1g rfl (ggf rfl) (fun h => cl hb39 rfl (mc (gvt h) (mc (gvt h) mn)) (fun w hw => rready_calls _ _ w (Sl.keptS hx hw) kx)) ?_
  refine q1g rfl (ggf rfl) (fun h => eqlb Try.underlying4 (gvt h) (gvt h)) ?_
  refine q1g rfl (gwt rfl) (fun h => pk_or (gvt h) rfl (gva h)) ?_
  refine q1 (pk_and rfl rfl rfl) ?_
  refine q1 (asgb rfl) ?_
  refine qnil ?_
  refine nthen ?_
  refine cret ?_
  exact fin1b rfl rfl (by rw [rready_eq v x hv kx]; simp)
end Go.Proofs.Ytkdbjhlkahkobaa
