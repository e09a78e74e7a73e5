/- walks, printed by a program of ours -/
import Derived.Test.YtkdbjhlkahkobaaTy
import Derived.Test.YtkdbjhlkahkobaaDef
import Derived.Test.YtkdbjhlkahkobaaWy
namespace Go.Proofs.Ytkdbjhlkahkobaa
open Jal Go.RowKit
set_option maxRecDepth 100000
def memB (b : Grp) (y : Ct) (i : Nat) : Bool := !(b.members i == decide (((y.slots i).n : Int) > 0))
def rmemB (b : Grp) (y : Ct) (i : Nat) : Bool := !(b.members i == decide (((y.slots i).n : Int) = 48))
def chk (m : Nat → Bool) (b : Grp) : Grp × Int := bif m 0 then (zeroG, 2) else bif m 1 then (zeroG, 2) else bif m 2 then (zeroG, 2) else bif m 3 then (zeroG, 2) else bif m 4 then (zeroG, 2) else bif m 5 then (zeroG, 2) else (b, 0)
def noB (x : Hd) (y : Ct) : Bool := (!formedH x || !x.control) || !cformedB y
def rnoB (x : Hd) (y : Ct) : Bool := (!rformedH x || !x.control) || !rcformedB y
def appG (g : Grp) (x : Hd) (y : Ct) : Grp × Int := bif noB x y then (zeroG, 1) else bif decide (mayI g x.writer y.op y.member ≠ 0) then (zeroG, mayI g x.writer y.op y.member) else
  bif decide (y.op = 5) then (behindG g x.writer y.op y.member y.cut, 0) else chk (memB (behindG g x.writer y.op y.member y.cut) y) (behindG g x.writer y.op y.member y.cut)
def rappG (g : Grp) (x : Hd) (y : Ct) : Grp × Int := bif rnoB x y then (zeroG, 1) else bif decide (rmayI g x.writer y.op y.member ≠ 0) then (zeroG, rmayI g x.writer y.op y.member) else
  chk (fun i => decide (y.op ≠ 5) && rmemB (behindG g x.writer y.op y.member y.cut) y i) (behindG g x.writer y.op y.member y.cut)
def encA (a : Grp × Int) : Value := .tuple #[.agg (encG a.1).toArray, .int .i64 a.2]
theorem finP {P : Program} {w0 : World} {H : List Ent} {n : Nat} {F : Nat → Value} {fn : Func} {A : Grp × Int} {G : Grp} {e : Int} (h : ∀ w, Sat w0 H w → (results fn (fr n F).tmps).run P w = .ok (.tuple #[.agg (encG G).toArray, .int .i64 e]) w) (hA : A = (G, e)) :
    NQ (bodyPost P fn (Ret (encA A) w0)) w0 H .ret n F := by subst hA; exact fin h
theorem noB_no {x : Hd} {y : Ct} (h : noB x y = false) : formedH x = true ∧ x.control = true ∧ cformedB y = true := by
  unfold noB at h
  cases h1 : formedH x <;> cases h2 : x.control <;> cases h3 : cformedB y <;> simp_all
theorem cformed_slots {y : Ct} (h : cformedB y = true) : ∀ i, i < 6 → (y.slots i).n = 0 ∨ (y.slots i).n = 48 := by
  have key : ∀ n, slotB n false = true → n = 0 ∨ n = 48 := fun n hn => by unfold slotB at hn; simp at hn; omega
  unfold cformedB slotsB at h
  cases h0 : slotB (y.slots 0).n false with
  | false => simp [h0] at h
  | true =>
  cases h1 : slotB (y.slots 1).n false with
  | false => simp [h0, h1] at h
  | true =>
  cases h2 : slotB (y.slots 2).n false with
  | false => simp [h0, h1, h2] at h
  | true =>
  cases h3 : slotB (y.slots 3).n false with
  | false => simp [h0, h1, h2, h3] at h
  | true =>
  cases h4 : slotB (y.slots 4).n false with
  | false => simp [h0, h1, h2, h3, h4] at h
  | true =>
  cases h5 : slotB (y.slots 5).n false with
  | false => simp [h0, h1, h2, h3, h4, h5] at h
  | true =>
  intro i hi
  rcases six hi with rfl | rfl | rfl | rfl | rfl | rfl
  · exact key _ h0
  · exact key _ h1
  · exact key _ h2
  · exact key _ h3
  · exact key _ h4
  · exact key _ h5
theorem chk_congr {m m' : Nat → Bool} {b : Grp} (h : ∀ i, i < 6 → m i = m' i) : chk m b = chk m' b := by
  unfold chk
  rw [h 0 (by omega), h 1 (by omega), h 2 (by omega), h 3 (by omega), h 4 (by omega), h 5 (by omega)]
theorem rapp_eq (g : Grp) (x : Hd) (y : Ct) (kx : HdOk x) (ky : CtOk y) : rappG g x y = appG g x y := by
  have e : rnoB x y = noB x y := by unfold rnoB noB; rw [rformed_eq kx.z, rcformed_eq y ky.u]
  unfold rappG appG
  rw [e, rmay_eq]
  cases hn : noB x y with
  | true => rfl
  | false =>
    obtain ⟨_, _, hc⟩ := noB_no hn
    simp only [cond_false]
    cases decide (mayI g x.writer y.op y.member ≠ 0) with
    | true => rfl
    | false =>
      simp only [cond_false]
      by_cases h5 : y.op = 5
      · rw [decide_eq_true h5]
        have e5 : decide (y.op ≠ 5) = false := by simp [h5]
        unfold chk
        simp only [e5, Bool.false_and, cond_false, cond_true]
      · rw [decide_eq_false h5]
        have e5 : decide (y.op ≠ 5) = true := by simp [h5]
        simp only [e5, Bool.true_and, cond_false]
        refine chk_congr fun i hi => ?_
        unfold rmemB memB
        rcases cformed_slots hc i hi with h | h <;> rw [h] <;> rfl

set_option maxHeartbeats 1000000 in
theorem apply_calls (g : Grp) (x : Hd) (y : Ct) (w : World) (hx : HdIn w x) (kx : HdOk x) (ky : CtOk y) : Calls Try.prog 42 #[.agg (encG g).toArray, .agg (encH x).toArray, .agg (encC y).toArray] w (Ret (encA (appG g x y)) w) := by
  refine fn_calls (n := 69) Try.func42 rfl rfl (lb rfl) ?_
  have hm1 : -9223372036854775808 ≤ y.member ∧ y.member ≤ 9223372036854775807 := ky.m
  refine cseq ?_
  refine creg ?_
  refine lbxa rfl (fun b1 => ?_)
  refine lbxa rfl (fun b2 => ?_)
  refine lbxa rfl (fun b3 => ?_)
  refine lal (zs := encG zeroG) Try.zeroValue43 rfl (fun b4 => ?_)
  refine l1 (asgi rfl) ?_
  refine lnil ?_
  refine nthen ?_
  refine cseq ?_
  refine cseq ?_
  refine creg ?_
  refine l1 (ldw 1 Try.isAgg37 Try.sizeOf37 rfl rfl rfl) ?_
  refine l1 (cl hb76 rfl (mc rfl mn) (fun w hw => hformed_calls _ w (Sl.keptS hx hw) kx)) ?_
  refine l1 (nt rfl) ?_
  refine l1 (mvb rfl) ?_
  refine l1g rfl (gwf rfl) (fun h => fa fa37_4 rfl) ?_
  refine l1g rfl (gwf rfl) (fun h => ldc 1 Try.isAgg4 rfl (gvt h) rfl) ?_
  refine l1g rfl (gwf rfl) (fun h => nt (gvt h)) ?_
  refine l1 (pk_or rfl rfl rfl) ?_
  refine l1 (mvb rfl) ?_
  refine l1g rfl (gwf rfl) (fun h => ldw 2 Try.isAgg59 Try.sizeOf59 rfl rfl rfl) ?_
  refine l1g rfl (gwf rfl) (fun h => cl hb78 rfl (mc (gvt h) mn) (fun w hw => cformed_calls _ w)) ?_
  refine l1g rfl (gwf rfl) (fun h => nt (gvt h)) ?_
  refine l1 (pk_or rfl rfl rfl) ?_
  refine lnil ?_
  refine nthen ?_
  refine cif rfl (fun h1 => ?_) (fun h1 => ?_)
  · change noB x y = _ at h1
    refine cseq ?_
    refine creg ?_
    refine l1 (bld0 bk43z) ?_
    refine lstw 3 rfl rfl rfl Try.sizeOf43 rfl rfl rfl ?_
    refine l1 (asgi rfl) ?_
    refine lnil ?_
    refine nthen ?_
    refine cret ?_
    refine nthenR ?_
    exact finP (rv2 rfl (rvc 3 Try.isAgg43 Try.sizeOf43 rfl rfl rfl rfl) (rvt rfl)) (by simp only [appG, chk, h1, cond_true, cond_false])
  · change noB x y = _ at h1
    refine cskip ?_
    refine nthen ?_
    refine cseq ?_
    refine cseq ?_
    refine creg ?_
    refine l1 (ldw 0 Try.isAgg43 Try.sizeOf43 rfl rfl rfl) ?_
    refine l1 (fa fa37_0 rfl) ?_
    refine l1 (ldc 1 Try.isAgg3 rfl rfl rfl) ?_
    refine l1 (fa fa59_0 rfl) ?_
    refine l1 (ldc 2 Try.isAgg3 rfl rfl rfl) ?_
    refine l1 (fa fa59_1 rfl) ?_
    refine l1 (ldc 2 Try.isAgg3 rfl rfl rfl) ?_
    refine l1 (cl hb32 rfl (mc rfl (mc rfl (mc rfl (mc rfl mn)))) (fun w hw => may_calls _ _ _ _ hm1 w)) ?_
    refine l1 (asgi rfl) ?_
    refine lnil ?_
    refine nthen ?_
    refine cseq ?_
    refine creg ?_
    refine l1 (mvi rfl) ?_
    refine l1 (neq rfl rfl) ?_
    refine lnil ?_
    refine nthen ?_
    refine cif rfl (fun h2 => ?_) (fun h2 => ?_)
    · skip
      refine cseq ?_
      refine creg ?_
      refine l1 (bld0 bk43z) ?_
      refine l1 (mvi rfl) ?_
      refine lstw 3 rfl rfl rfl Try.sizeOf43 rfl rfl rfl ?_
      refine l1 (asgi rfl) ?_
      refine lnil ?_
      refine nthen ?_
      refine cret ?_
      refine nthenR ?_
      exact finP (rv2 rfl (rvc 3 Try.isAgg43 Try.sizeOf43 rfl rfl rfl rfl) (rvt rfl)) (by simp only [appG, chk, h1, h2, cond_true, cond_false])
    · skip
      refine cskip ?_
      refine nthen ?_
      refine cseq ?_
      refine creg ?_
      refine l1 (ldw 0 Try.isAgg43 Try.sizeOf43 rfl rfl rfl) ?_
      refine l1 (fa fa37_0 rfl) ?_
      refine l1 (ldc 1 Try.isAgg3 rfl rfl rfl) ?_
      refine l1 (fa fa59_0 rfl) ?_
      refine l1 (ldc 2 Try.isAgg3 rfl rfl rfl) ?_
      refine l1 (fa fa59_1 rfl) ?_
      refine l1 (ldc 2 Try.isAgg3 rfl rfl rfl) ?_
      refine l1 (fa fa59_2 rfl) ?_
      refine l1 (ldc 2 Try.isAgg22 rfl rfl rfl) ?_
      refine l1 (cl hb33 rfl (mc rfl (mc rfl (mc rfl (mc rfl (mc rfl mn))))) (fun w hw => behind_calls _ _ _ _ _ w)) ?_
      refine lal (zs := encG zeroG) Try.zeroValue43 rfl (fun b5 => ?_)
      refine lstw 4 rfl rfl rfl Try.sizeOf43 rfl rfl rfl ?_
      refine lnil ?_
      refine nthen ?_
      refine cseq ?_
      refine cseq ?_
      refine creg ?_
      refine l1 (fa fa59_0 rfl) ?_
      refine l1 (ldc 2 Try.isAgg3 rfl rfl rfl) ?_
      refine l1 (eql rfl rfl) ?_
      refine lnil ?_
      refine nthen ?_
      refine cif rfl (fun h3 => ?_) (fun h3 => ?_)
      · skip
        refine cseq ?_
        refine creg ?_
        refine l1 (ldw 4 Try.isAgg43 Try.sizeOf43 rfl rfl rfl) ?_
        refine lstw 3 rfl rfl rfl Try.sizeOf43 rfl rfl rfl ?_
        refine l1 (asgi rfl) ?_
        refine lnil ?_
        refine nthen ?_
        refine cret ?_
        refine nthenR ?_
        exact finP (rv2 rfl (rvc 3 Try.isAgg43 Try.sizeOf43 rfl rfl rfl rfl) (rvt rfl)) (by simp only [appG, chk, h1, h2, h3, cond_true, cond_false])
      · skip
        refine cskip ?_
        refine nthen ?_
        refine cseq ?_
        refine cseq ?_
        refine creg ?_
        refine l1 (fa fa59_3 rfl) ?_
        refine l1 (lda 2 Try.isAgg57 Try.sizeOf57 rfl rfl (encC_slots _) rfl) ?_
        refine l1 (mvi rfl) ?_
        refine lnil ?_
        refine nthen ?_
        refine cblock ?_
        refine cloopN 7 ?_
        refine rsucc ?_
        refine cseq ?_
        refine creg ?_
        refine l1 (lss rfl rfl) ?_
        refine lnil ?_
        refine nthen ?_
        refine cseq ?_
        refine cift rfl ?_
        refine cskip ?_
        refine nthen ?_
        refine cseq ?_
        refine cblock ?_
        refine cseq ?_
        refine creg ?_
        refine l1 (mvi rfl) ?_
        refine l1 (ixv (v := .slice (y.slots 0).p (y.slots 0).n (y.slots 0).c) Try.underlying57 Try.sizeOf56 Try.isAgg56 rfl rfl (by decide) (by decide) rfl) ?_
        refine l1 (asgi rfl) ?_
        refine l1 (asgs rfl) ?_
        refine lnil ?_
        refine nthen ?_
        refine cseq ?_
        refine creg ?_
        refine l1 (mvi rfl) ?_
        refine l1 (fa fa43_2 rfl) ?_
        refine l1 (ia ar41 rfl rfl (by decide) (by decide)) ?_
        refine l1 (ldc (v := .bool ((behindG g x.writer y.op y.member y.cut).members 0)) 4 Try.isAgg4 rfl rfl rfl) ?_
        refine l1 (mvs rfl) ?_
        refine l1 (lens sl56 rfl rfl) ?_
        refine l1 (gtr rfl rfl) ?_
        refine l1 (neqb Try.underlying4 rfl rfl) ?_
        refine lnil ?_
        refine nthen ?_
        refine cif rfl (fun h4 => ?_) (fun h4 => ?_)
        · change memB (behindG g x.writer y.op y.member y.cut) y 0 = _ at h4
          refine cseq ?_
          refine creg ?_
          refine l1 (bld0 bk43z) ?_
          refine lstw 3 rfl rfl rfl Try.sizeOf43 rfl rfl rfl ?_
          refine l1 (asgi rfl) ?_
          refine lnil ?_
          refine nthen ?_
          refine cret ?_
          refine nblkR ?_
          refine nthenR ?_
          refine nroundR ?_
          refine nblkR ?_
          refine nthenR ?_
          exact finP (rv2 rfl (rvc 3 Try.isAgg43 Try.sizeOf43 rfl rfl rfl rfl) (rvt rfl)) (by simp only [appG, chk, h1, h2, h3, h4, cond_true, cond_false])
        · change memB (behindG g x.writer y.op y.member y.cut) y 0 = _ at h4
          refine cskip ?_
          refine nblkN ?_
          refine nthen ?_
          refine creg ?_
          first | refine l1 (addn rfl rfl (ri (by omega) (by omega))) ?_ | refine l1 (add rfl rfl) ?_
          refine l1 (mvi rfl) ?_
          refine lnil ?_
          refine nround (rsucc ?_)
          refine cseq ?_
          refine creg ?_
          refine l1 (lss rfl rfl) ?_
          refine lnil ?_
          refine nthen ?_
          refine cseq ?_
          refine cift rfl ?_
          refine cskip ?_
          refine nthen ?_
          refine cseq ?_
          refine cblock ?_
          refine cseq ?_
          refine creg ?_
          refine l1 (mvi rfl) ?_
          refine l1 (ixv (v := .slice (y.slots 1).p (y.slots 1).n (y.slots 1).c) Try.underlying57 Try.sizeOf56 Try.isAgg56 rfl rfl (by decide) (by decide) rfl) ?_
          refine l1 (asgi rfl) ?_
          refine l1 (asgs rfl) ?_
          refine lnil ?_
          refine nthen ?_
          refine cseq ?_
          refine creg ?_
          refine l1 (mvi rfl) ?_
          refine l1 (fa fa43_2 rfl) ?_
          refine l1 (ia ar41 rfl rfl (by decide) (by decide)) ?_
          refine l1 (ldc (v := .bool ((behindG g x.writer y.op y.member y.cut).members 1)) 4 Try.isAgg4 rfl rfl rfl) ?_
          refine l1 (mvs rfl) ?_
          refine l1 (lens sl56 rfl rfl) ?_
          refine l1 (gtr rfl rfl) ?_
          refine l1 (neqb Try.underlying4 rfl rfl) ?_
          refine lnil ?_
          refine nthen ?_
          refine cif rfl (fun h5 => ?_) (fun h5 => ?_)
          · change memB (behindG g x.writer y.op y.member y.cut) y 1 = _ at h5
            refine cseq ?_
            refine creg ?_
            refine l1 (bld0 bk43z) ?_
            refine lstw 3 rfl rfl rfl Try.sizeOf43 rfl rfl rfl ?_
            refine l1 (asgi rfl) ?_
            refine lnil ?_
            refine nthen ?_
            refine cret ?_
            refine nblkR ?_
            refine nthenR ?_
            refine nroundR ?_
            refine nblkR ?_
            refine nthenR ?_
            exact finP (rv2 rfl (rvc 3 Try.isAgg43 Try.sizeOf43 rfl rfl rfl rfl) (rvt rfl)) (by simp only [appG, chk, h1, h2, h3, h4, h5, cond_true, cond_false])
          · change memB (behindG g x.writer y.op y.member y.cut) y 1 = _ at h5
            refine cskip ?_
            refine nblkN ?_
            refine nthen ?_
            refine creg ?_
            first | refine l1 (addn rfl rfl (ri (by omega) (by omega))) ?_ | refine l1 (add rfl rfl) ?_
            refine l1 (mvi rfl) ?_
            refine lnil ?_
            refine nround (rsucc ?_)
            refine cseq ?_
            refine creg ?_
            refine l1 (lss rfl rfl) ?_
            refine lnil ?_
            refine nthen ?_
            refine cseq ?_
            refine cift rfl ?_
            refine cskip ?_
            refine nthen ?_
            refine cseq ?_
            refine cblock ?_
            refine cseq ?_
            refine creg ?_
            refine l1 (mvi rfl) ?_
            refine l1 (ixv (v := .slice (y.slots 2).p (y.slots 2).n (y.slots 2).c) Try.underlying57 Try.sizeOf56 Try.isAgg56 rfl rfl (by decide) (by decide) rfl) ?_
            refine l1 (asgi rfl) ?_
            refine l1 (asgs rfl) ?_
            refine lnil ?_
            refine nthen ?_
            refine cseq ?_
            refine creg ?_
            refine l1 (mvi rfl) ?_
            refine l1 (fa fa43_2 rfl) ?_
            refine l1 (ia ar41 rfl rfl (by decide) (by decide)) ?_
            refine l1 (ldc (v := .bool ((behindG g x.writer y.op y.member y.cut).members 2)) 4 Try.isAgg4 rfl rfl rfl) ?_
            refine l1 (mvs rfl) ?_
            refine l1 (lens sl56 rfl rfl) ?_
            refine l1 (gtr rfl rfl) ?_
            refine l1 (neqb Try.underlying4 rfl rfl) ?_
            refine lnil ?_
            refine nthen ?_
            refine cif rfl (fun h6 => ?_) (fun h6 => ?_)
            · change memB (behindG g x.writer y.op y.member y.cut) y 2 = _ at h6
              refine cseq ?_
              refine creg ?_
              refine l1 (bld0 bk43z) ?_
              refine lstw 3 rfl rfl rfl Try.sizeOf43 rfl rfl rfl ?_
              refine l1 (asgi rfl) ?_
              refine lnil ?_
              refine nthen ?_
              refine cret ?_
              refine nblkR ?_
              refine nthenR ?_
              refine nroundR ?_
              refine nblkR ?_
              refine nthenR ?_
              exact finP (rv2 rfl (rvc 3 Try.isAgg43 Try.sizeOf43 rfl rfl rfl rfl) (rvt rfl)) (by simp only [appG, chk, h1, h2, h3, h4, h5, h6, cond_true, cond_false])
            · change memB (behindG g x.writer y.op y.member y.cut) y 2 = _ at h6
              refine cskip ?_
              refine nblkN ?_
              refine nthen ?_
              refine creg ?_
              first | refine l1 (addn rfl rfl (ri (by omega) (by omega))) ?_ | refine l1 (add rfl rfl) ?_
              refine l1 (mvi rfl) ?_
              refine lnil ?_
              refine nround (rsucc ?_)
              refine cseq ?_
              refine creg ?_
              refine l1 (lss rfl rfl) ?_
              refine lnil ?_
              refine nthen ?_
              refine cseq ?_
              refine cift rfl ?_
              refine cskip ?_
              refine nthen ?_
              refine cseq ?_
              refine cblock ?_
              refine cseq ?_
              refine creg ?_
              refine l1 (mvi rfl) ?_
              refine l1 (ixv (v := .slice (y.slots 3).p (y.slots 3).n (y.slots 3).c) Try.underlying57 Try.sizeOf56 Try.isAgg56 rfl rfl (by decide) (by decide) rfl) ?_
              refine l1 (asgi rfl) ?_
              refine l1 (asgs rfl) ?_
              refine lnil ?_
              refine nthen ?_
              refine cseq ?_
              refine creg ?_
              refine l1 (mvi rfl) ?_
              refine l1 (fa fa43_2 rfl) ?_
              refine l1 (ia ar41 rfl rfl (by decide) (by decide)) ?_
              refine l1 (ldc (v := .bool ((behindG g x.writer y.op y.member y.cut).members 3)) 4 Try.isAgg4 rfl rfl rfl) ?_
              refine l1 (mvs rfl) ?_
              refine l1 (lens sl56 rfl rfl) ?_
              refine l1 (gtr rfl rfl) ?_
              refine l1 (neqb Try.underlying4 rfl rfl) ?_
              refine lnil ?_
              refine nthen ?_
              refine cif rfl (fun h7 => ?_) (fun h7 => ?_)
              · change memB (behindG g x.writer y.op y.member y.cut) y 3 = _ at h7
                refine cseq ?_
                refine creg ?_
                refine l1 (bld0 bk43z) ?_
                refine lstw 3 rfl rfl rfl Try.sizeOf43 rfl rfl rfl ?_
                refine l1 (asgi rfl) ?_
                refine lnil ?_
                refine nthen ?_
                refine cret ?_
                refine nblkR ?_
                refine nthenR ?_
                refine nroundR ?_
                refine nblkR ?_
                refine nthenR ?_
                exact finP (rv2 rfl (rvc 3 Try.isAgg43 Try.sizeOf43 rfl rfl rfl rfl) (rvt rfl)) (by simp only [appG, chk, h1, h2, h3, h4, h5, h6, h7, cond_true, cond_false])
              · change memB (behindG g x.writer y.op y.member y.cut) y 3 = _ at h7
                refine cskip ?_
                refine nblkN ?_
                refine nthen ?_
                refine creg ?_
                first | refine l1 (addn rfl rfl (ri (by omega) (by omega))) ?_ | refine l1 (add rfl rfl) ?_
                refine l1 (mvi rfl) ?_
                refine lnil ?_
                refine nround (rsucc ?_)
                refine cseq ?_
                refine creg ?_
                refine l1 (lss rfl rfl) ?_
                refine lnil ?_
                refine nthen ?_
                refine cseq ?_
                refine cift rfl ?_
                refine cskip ?_
                refine nthen ?_
                refine cseq ?_
                refine cblock ?_
                refine cseq ?_
                refine creg ?_
                refine l1 (mvi rfl) ?_
                refine l1 (ixv (v := .slice (y.slots 4).p (y.slots 4).n (y.slots 4).c) Try.underlying57 Try.sizeOf56 Try.isAgg56 rfl rfl (by decide) (by decide) rfl) ?_
                refine l1 (asgi rfl) ?_
                refine l1 (asgs rfl) ?_
                refine lnil ?_
                refine nthen ?_
                refine cseq ?_
                refine creg ?_
                refine l1 (mvi rfl) ?_
                refine l1 (fa fa43_2 rfl) ?_
                refine l1 (ia ar41 rfl rfl (by decide) (by decide)) ?_
                refine l1 (ldc (v := .bool ((behindG g x.writer y.op y.member y.cut).members 4)) 4 Try.isAgg4 rfl rfl rfl) ?_
                refine l1 (mvs rfl) ?_
                refine l1 (lens sl56 rfl rfl) ?_
                refine l1 (gtr rfl rfl) ?_
                refine l1 (neqb Try.underlying4 rfl rfl) ?_
                refine lnil ?_
                refine nthen ?_
                refine cif rfl (fun h8 => ?_) (fun h8 => ?_)
                · change memB (behindG g x.writer y.op y.member y.cut) y 4 = _ at h8
                  refine cseq ?_
                  refine creg ?_
                  refine l1 (bld0 bk43z) ?_
                  refine lstw 3 rfl rfl rfl Try.sizeOf43 rfl rfl rfl ?_
                  refine l1 (asgi rfl) ?_
                  refine lnil ?_
                  refine nthen ?_
                  refine cret ?_
                  refine nblkR ?_
                  refine nthenR ?_
                  refine nroundR ?_
                  refine nblkR ?_
                  refine nthenR ?_
                  exact finP (rv2 rfl (rvc 3 Try.isAgg43 Try.sizeOf43 rfl rfl rfl rfl) (rvt rfl)) (by simp only [appG, chk, h1, h2, h3, h4, h5, h6, h7, h8, cond_true, cond_false])
                · change memB (behindG g x.writer y.op y.member y.cut) y 4 = _ at h8
                  refine cskip ?_
                  refine nblkN ?_
                  refine nthen ?_
                  refine creg ?_
                  first | refine l1 (addn rfl rfl (ri (by omega) (by omega))) ?_ | refine l1 (add rfl rfl) ?_
                  refine l1 (mvi rfl) ?_
                  refine lnil ?_
                  refine nround (rsucc ?_)
                  refine cseq ?_
                  refine creg ?_
                  refine l1 (lss rfl rfl) ?_
                  refine lnil ?_
                  refine nthen ?_
                  refine cseq ?_
                  refine cift rfl ?_
                  refine cskip ?_
                  refine nthen ?_
                  refine cseq ?_
                  refine cblock ?_
                  refine cseq ?_
                  refine creg ?_
                  refine l1 (mvi rfl) ?_
                  refine l1 (ixv (v := .slice (y.slots 5).p (y.slots 5).n (y.slots 5).c) Try.underlying57 Try.sizeOf56 Try.isAgg56 rfl rfl (by decide) (by decide) rfl) ?_
                  refine l1 (asgi rfl) ?_
                  refine l1 (asgs rfl) ?_
                  refine lnil ?_
                  refine nthen ?_
                  refine cseq ?_
                  refine creg ?_
                  refine l1 (mvi rfl) ?_
                  refine l1 (fa fa43_2 rfl) ?_
                  refine l1 (ia ar41 rfl rfl (by decide) (by decide)) ?_
                  refine l1 (ldc (v := .bool ((behindG g x.writer y.op y.member y.cut).members 5)) 4 Try.isAgg4 rfl rfl rfl) ?_
                  refine l1 (mvs rfl) ?_
                  refine l1 (lens sl56 rfl rfl) ?_
                  refine l1 (gtr rfl rfl) ?_
                  refine l1 (neqb Try.underlying4 rfl rfl) ?_
                  refine lnil ?_
                  refine nthen ?_
                  refine cif rfl (fun h9 => ?_) (fun h9 => ?_)
                  · change memB (behindG g x.writer y.op y.member y.cut) y 5 = _ at h9
                    refine cseq ?_
                    refine creg ?_
                    refine l1 (bld0 bk43z) ?_
                    refine lstw 3 rfl rfl rfl Try.sizeOf43 rfl rfl rfl ?_
                    refine l1 (asgi rfl) ?_
                    refine lnil ?_
                    refine nthen ?_
                    refine cret ?_
                    refine nblkR ?_
                    refine nthenR ?_
                    refine nroundR ?_
                    refine nblkR ?_
                    refine nthenR ?_
                    exact finP (rv2 rfl (rvc 3 Try.isAgg43 Try.sizeOf43 rfl rfl rfl rfl) (rvt rfl)) (by simp only [appG, chk, h1, h2, h3, h4, h5, h6, h7, h8, h9, cond_true, cond_false])
                  · change memB (behindG g x.writer y.op y.member y.cut) y 5 = _ at h9
                    refine cskip ?_
                    refine nblkN ?_
                    refine nthen ?_
                    refine creg ?_
                    first | refine l1 (addn rfl rfl (ri (by omega) (by omega))) ?_ | refine l1 (add rfl rfl) ?_
                    refine l1 (mvi rfl) ?_
                    refine lnil ?_
                    refine nround (rsucc ?_)
                    refine cseq ?_
                    refine creg ?_
                    refine l1 (lss rfl rfl) ?_
                    refine lnil ?_
                    refine nthen ?_
                    refine cseq ?_
                    refine ciff rfl ?_
                    refine cexit ?_
                    refine nthenE ?_
                    refine nroundE ?_
                    refine nblkE ?_
                    refine nthen ?_
                    refine cseq ?_
                    refine creg ?_
                    refine l1 (ldw 4 Try.isAgg43 Try.sizeOf43 rfl rfl rfl) ?_
                    refine lstw 3 rfl rfl rfl Try.sizeOf43 rfl rfl rfl ?_
                    refine l1 (asgi rfl) ?_
                    refine lnil ?_
                    refine nthen ?_
                    refine cret ?_
                    exact finP (rv2 rfl (rvc 3 Try.isAgg43 Try.sizeOf43 rfl rfl rfl rfl) (rvt rfl)) (by simp only [appG, chk, h1, h2, h3, h4, h5, h6, h7, h8, h9, cond_true, cond_false])

set_option maxHeartbeats 1000000 in
theorem rapply_calls (g : Grp) (x : Hd) (y : Ct) (w : World) (hx : HdIn w x) (kx : HdOk x) (ky : CtOk y) : Calls Try.prog 43 #[.agg (encG g).toArray, .agg (encH x).toArray, .agg (encC y).toArray] w (Ret (encA (rappG g x y)) w) := by
  refine fn_calls (n := 69) Try.func43 rfl rfl (lb rfl) ?_
  have hm1 : -9223372036854775808 ≤ y.member ∧ y.member ≤ 9223372036854775807 := ky.m
  refine cseq ?_
  refine creg ?_
  refine lbxa rfl (fun b1 => ?_)
  refine lbxa rfl (fun b2 => ?_)
  refine lbxa rfl (fun b3 => ?_)
  refine lal (zs := encG zeroG) Try.zeroValue43 rfl (fun b4 => ?_)
  refine l1 (asgi rfl) ?_
  refine lnil ?_
  refine nthen ?_
  refine cseq ?_
  refine cseq ?_
  refine creg ?_
  refine l1 (ldw 1 Try.isAgg37 Try.sizeOf37 rfl rfl rfl) ?_
  refine l1 (cl hb77 rfl (mc rfl mn) (fun w hw => rformed_calls _ w (Sl.keptS hx hw) kx)) ?_
  refine l1 (nt rfl) ?_
  refine l1 (mvb rfl) ?_
  refine l1g rfl (gwf rfl) (fun h => fa fa37_4 rfl) ?_
  refine l1g rfl (gwf rfl) (fun h => ldc 1 Try.isAgg4 rfl (gvt h) rfl) ?_
  refine l1g rfl (gwf rfl) (fun h => nt (gvt h)) ?_
  refine l1 (pk_or rfl rfl rfl) ?_
  refine l1 (mvb rfl) ?_
  refine l1g rfl (gwf rfl) (fun h => ldw 2 Try.isAgg59 Try.sizeOf59 rfl rfl rfl) ?_
  refine l1g rfl (gwf rfl) (fun h => cl hb79 rfl (mc (gvt h) mn) (fun w hw => rcformed_calls _ w)) ?_
  refine l1g rfl (gwf rfl) (fun h => nt (gvt h)) ?_
  refine l1 (pk_or rfl rfl rfl) ?_
  refine lnil ?_
  refine nthen ?_
  refine cif rfl (fun h1 => ?_) (fun h1 => ?_)
  · change rnoB x y = _ at h1
    refine cseq ?_
    refine creg ?_
    refine l1 (bld0 bk43z) ?_
    refine lstw 3 rfl rfl rfl Try.sizeOf43 rfl rfl rfl ?_
    refine l1 (asgi rfl) ?_
    refine lnil ?_
    refine nthen ?_
    refine cret ?_
    refine nthenR ?_
    exact finP (rv2 rfl (rvc 3 Try.isAgg43 Try.sizeOf43 rfl rfl rfl rfl) (rvt rfl)) (by simp only [rappG, chk, h1, cond_true, cond_false])
  · change rnoB x y = _ at h1
    refine cskip ?_
    refine nthen ?_
    refine cseq ?_
    refine creg ?_
    refine l1 (ldw 0 Try.isAgg43 Try.sizeOf43 rfl rfl rfl) ?_
    refine l1 (fa fa37_0 rfl) ?_
    refine l1 (ldc 1 Try.isAgg3 rfl rfl rfl) ?_
    refine l1 (fa fa59_0 rfl) ?_
    refine l1 (ldc 2 Try.isAgg3 rfl rfl rfl) ?_
    refine l1 (fa fa59_1 rfl) ?_
    refine l1 (ldc 2 Try.isAgg3 rfl rfl rfl) ?_
    refine l1 (cl hb36 rfl (mc rfl (mc rfl (mc rfl (mc rfl mn)))) (fun w hw => rmay_calls _ _ _ _ hm1 w)) ?_
    refine l1 (asgi rfl) ?_
    refine lnil ?_
    refine nthen ?_
    refine cseq ?_
    refine cseq ?_
    refine creg ?_
    refine l1 (mvi rfl) ?_
    refine l1 (neq rfl rfl) ?_
    refine lnil ?_
    refine nthen ?_
    refine cif rfl (fun h2 => ?_) (fun h2 => ?_)
    · skip
      refine cseq ?_
      refine creg ?_
      refine l1 (bld0 bk43z) ?_
      refine l1 (mvi rfl) ?_
      refine lstw 3 rfl rfl rfl Try.sizeOf43 rfl rfl rfl ?_
      refine l1 (asgi rfl) ?_
      refine lnil ?_
      refine nthen ?_
      refine cret ?_
      refine nthenR ?_
      exact finP (rv2 rfl (rvc 3 Try.isAgg43 Try.sizeOf43 rfl rfl rfl rfl) (rvt rfl)) (by simp only [rappG, chk, h1, h2, cond_true, cond_false])
    · skip
      refine cskip ?_
      refine nthen ?_
      refine cseq ?_
      refine creg ?_
      refine l1 (ldw 0 Try.isAgg43 Try.sizeOf43 rfl rfl rfl) ?_
      refine l1 (fa fa37_0 rfl) ?_
      refine l1 (ldc 1 Try.isAgg3 rfl rfl rfl) ?_
      refine l1 (fa fa59_0 rfl) ?_
      refine l1 (ldc 2 Try.isAgg3 rfl rfl rfl) ?_
      refine l1 (fa fa59_1 rfl) ?_
      refine l1 (ldc 2 Try.isAgg3 rfl rfl rfl) ?_
      refine l1 (fa fa59_2 rfl) ?_
      refine l1 (ldc 2 Try.isAgg22 rfl rfl rfl) ?_
      refine l1 (cl hb37 rfl (mc rfl (mc rfl (mc rfl (mc rfl (mc rfl mn))))) (fun w hw => rbehind_calls _ _ _ _ _ w)) ?_
      refine lal (zs := encG zeroG) Try.zeroValue43 rfl (fun b5 => ?_)
      refine lstw 4 rfl rfl rfl Try.sizeOf43 rfl rfl rfl ?_
      refine lnil ?_
      refine nthen ?_
      refine cseq ?_
      refine cseq ?_
      refine creg ?_
      refine l1 (asgi rfl) ?_
      refine lnil ?_
      refine nthen ?_
      refine cblock ?_
      refine cloopN 7 ?_
      refine rsucc ?_
      refine cseq ?_
      refine cseq ?_
      refine creg ?_
      refine l1 (mvi rfl) ?_
      refine l1 (lss rfl rfl) ?_
      refine lnil ?_
      refine nthen ?_
      refine cift rfl ?_
      refine cskip ?_
      refine nthen ?_
      refine cseq ?_
      refine cblock ?_
      refine cseq ?_
      refine cregq mo (by kernel_rfl) ?_
      refine q1 (fa fa59_0 rfl) ?_
      refine q1 (ldc 2 Try.isAgg3 rfl rfl rfl) ?_
      refine q1 (neq rfl rfl) ?_
      refine q1 (mvb rfl) ?_
      refine q1g rfl (gwt rfl) (fun h => mvi rfl) ?_
      refine q1g rfl (gwt rfl) (fun h => fa fa43_2 rfl) ?_
      refine q1g rfl (gwt rfl) (fun h => ia ar41 (gvt h) (gvt h) (by decide) (by decide)) ?_
      refine q1g rfl (gwt rfl) (fun h => ldc (v := .bool ((behindG g x.writer y.op y.member y.cut).members 0)) 4 Try.isAgg4 rfl (gvt h) rfl) ?_
      refine q1g rfl (gwt rfl) (fun h => mvi rfl) ?_
      refine q1g rfl (gwt rfl) (fun h => fa fa59_3 rfl) ?_
      refine q1g rfl (gwt rfl) (fun h => ia ar57 (gvt h) (gvt h) (by decide) (by decide)) ?_
      refine q1g rfl (gwt rfl) (fun h => ldc (v := .slice (y.slots 0).p (y.slots 0).n (y.slots 0).c) 2 Try.isAgg56 rfl (gvt h) rfl) ?_
      refine q1g rfl (gwt rfl) (fun h => lens sl56 rfl (gvt h)) ?_
      refine q1g rfl (gwt rfl) (fun h => eql (gvt h) rfl) ?_
      refine q1g rfl (gwt rfl) (fun h => neqb Try.underlying4 (gvt h) (gvt h)) ?_
      refine q1 (pk_and rfl rfl rfl) ?_
      refine qnil ?_
      refine nthen ?_
      refine cif rfl (fun h3 => ?_) (fun h3 => ?_)
      · change (decide (y.op ≠ 5) && rmemB (behindG g x.writer y.op y.member y.cut) y 0) = _ at h3
        refine cseq ?_
        refine creg ?_
        refine l1 (bld0 bk43z) ?_
        refine lstw 3 rfl rfl rfl Try.sizeOf43 rfl rfl rfl ?_
        refine l1 (asgi rfl) ?_
        refine lnil ?_
        refine nthen ?_
        refine cret ?_
        refine nblkR ?_
        refine nthenR ?_
        refine nroundR ?_
        refine nblkR ?_
        refine nthenR ?_
        exact finP (rv2 rfl (rvc 3 Try.isAgg43 Try.sizeOf43 rfl rfl rfl rfl) (rvt rfl)) (by simp only [rappG, chk, h1, h2, h3, cond_true, cond_false])
      · change (decide (y.op ≠ 5) && rmemB (behindG g x.writer y.op y.member y.cut) y 0) = _ at h3
        refine cskip ?_
        refine nblkN ?_
        refine nthen ?_
        refine creg ?_
        refine l1 (mvi rfl) ?_
        first | refine l1 (addn rfl rfl (ri (by omega) (by omega))) ?_ | refine l1 (add rfl rfl) ?_
        refine l1 (asgi rfl) ?_
        refine lnil ?_
        refine nround (rsucc ?_)
        refine cseq ?_
        refine cseq ?_
        refine creg ?_
        refine l1 (mvi rfl) ?_
        refine l1 (lss rfl rfl) ?_
        refine lnil ?_
        refine nthen ?_
        refine cift rfl ?_
        refine cskip ?_
        refine nthen ?_
        refine cseq ?_
        refine cblock ?_
        refine cseq ?_
        refine cregq mo (by kernel_rfl) ?_
        refine q1 (fa fa59_0 rfl) ?_
        refine q1 (ldc 2 Try.isAgg3 rfl rfl rfl) ?_
        refine q1 (neq rfl rfl) ?_
        refine q1 (mvb rfl) ?_
        refine q1g rfl (gwt rfl) (fun h => mvi rfl) ?_
        refine q1g rfl (gwt rfl) (fun h => fa fa43_2 rfl) ?_
        refine q1g rfl (gwt rfl) (fun h => ia ar41 (gvt h) (gvt h) (by decide) (by decide)) ?_
        refine q1g rfl (gwt rfl) (fun h => ldc (v := .bool ((behindG g x.writer y.op y.member y.cut).members 1)) 4 Try.isAgg4 rfl (gvt h) rfl) ?_
        refine q1g rfl (gwt rfl) (fun h => mvi rfl) ?_
        refine q1g rfl (gwt rfl) (fun h => fa fa59_3 rfl) ?_
        refine q1g rfl (gwt rfl) (fun h => ia ar57 (gvt h) (gvt h) (by decide) (by decide)) ?_
        refine q1g rfl (gwt rfl) (fun h => ldc (v := .slice (y.slots 1).p (y.slots 1).n (y.slots 1).c) 2 Try.isAgg56 rfl (gvt h) rfl) ?_
        refine q1g rfl (gwt rfl) (fun h => lens sl56 rfl (gvt h)) ?_
        refine q1g rfl (gwt rfl) (fun h => eql (gvt h) rfl) ?_
        refine q1g rfl (gwt rfl) (fun h => neqb Try.underlying4 (gvt h) (gvt h)) ?_
        refine q1 (pk_and rfl rfl rfl) ?_
        refine qnil ?_
        refine nthen ?_
        refine cif rfl (fun h4 => ?_) (fun h4 => ?_)
        · change (decide (y.op ≠ 5) && rmemB (behindG g x.writer y.op y.member y.cut) y 1) = _ at h4
          refine cseq ?_
          refine creg ?_
          refine l1 (bld0 bk43z) ?_
          refine lstw 3 rfl rfl rfl Try.sizeOf43 rfl rfl rfl ?_
          refine l1 (asgi rfl) ?_
          refine lnil ?_
          refine nthen ?_
          refine cret ?_
          refine nblkR ?_
          refine nthenR ?_
          refine nroundR ?_
          refine nblkR ?_
          refine nthenR ?_
          exact finP (rv2 rfl (rvc 3 Try.isAgg43 Try.sizeOf43 rfl rfl rfl rfl) (rvt rfl)) (by simp only [rappG, chk, h1, h2, h3, h4, cond_true, cond_false])
        · change (decide (y.op ≠ 5) && rmemB (behindG g x.writer y.op y.member y.cut) y 1) = _ at h4
          refine cskip ?_
          refine nblkN ?_
          refine nthen ?_
          refine creg ?_
          refine l1 (mvi rfl) ?_
          first | refine l1 (addn rfl rfl (ri (by omega) (by omega))) ?_ | refine l1 (add rfl rfl) ?_
          refine l1 (asgi rfl) ?_
          refine lnil ?_
          refine nround (rsucc ?_)
          refine cseq ?_
          refine cseq ?_
          refine creg ?_
          refine l1 (mvi rfl) ?_
          refine l1 (lss rfl rfl) ?_
          refine lnil ?_
          refine nthen ?_
          refine cift rfl ?_
          refine cskip ?_
          refine nthen ?_
          refine cseq ?_
          refine cblock ?_
          refine cseq ?_
          refine cregq mo (by kernel_rfl) ?_
          refine q1 (fa fa59_0 rfl) ?_
          refine q1 (ldc 2 Try.isAgg3 rfl rfl rfl) ?_
          refine q1 (neq rfl rfl) ?_
          refine q1 (mvb rfl) ?_
          refine q1g rfl (gwt rfl) (fun h => mvi rfl) ?_
          refine q1g rfl (gwt rfl) (fun h => fa fa43_2 rfl) ?_
          refine q1g rfl (gwt rfl) (fun h => ia ar41 (gvt h) (gvt h) (by decide) (by decide)) ?_
          refine q1g rfl (gwt rfl) (fun h => ldc (v := .bool ((behindG g x.writer y.op y.member y.cut).members 2)) 4 Try.isAgg4 rfl (gvt h) rfl) ?_
          refine q1g rfl (gwt rfl) (fun h => mvi rfl) ?_
          refine q1g rfl (gwt rfl) (fun h => fa fa59_3 rfl) ?_
          refine q1g rfl (gwt rfl) (fun h => ia ar57 (gvt h) (gvt h) (by decide) (by decide)) ?_
          refine q1g rfl (gwt rfl) (fun h => ldc (v := .slice (y.slots 2).p (y.slots 2).n (y.slots 2).c) 2 Try.isAgg56 rfl (gvt h) rfl) ?_
          refine q1g rfl (gwt rfl) (fun h => lens sl56 rfl (gvt h)) ?_
          refine q1g rfl (gwt rfl) (fun h => eql (gvt h) rfl) ?_
          refine q1g rfl (gwt rfl) (fun h => neqb Try.underlying4 (gvt h) (gvt h)) ?_
          refine q1 (pk_and rfl rfl rfl) ?_
          refine qnil ?_
          refine nthen ?_
          refine cif rfl (fun h5 => ?_) (fun h5 => ?_)
          · change (decide (y.op ≠ 5) && rmemB (behindG g x.writer y.op y.member y.cut) y 2) = _ at h5
            refine cseq ?_
            refine creg ?_
            refine l1 (bld0 bk43z) ?_
            refine lstw 3 rfl rfl rfl Try.sizeOf43 rfl rfl rfl ?_
            refine l1 (asgi rfl) ?_
            refine lnil ?_
            refine nthen ?_
            refine cret ?_
            refine nblkR ?_
            refine nthenR ?_
            refine nroundR ?_
            refine nblkR ?_
            refine nthenR ?_
            exact finP (rv2 rfl (rvc 3 Try.isAgg43 Try.sizeOf43 rfl rfl rfl rfl) (rvt rfl)) (by simp only [rappG, chk, h1, h2, h3, h4, h5, cond_true, cond_false])
          · change (decide (y.op ≠ 5) && rmemB (behindG g x.writer y.op y.member y.cut) y 2) = _ at h5
            refine cskip ?_
            refine nblkN ?_
            refine nthen ?_
            refine creg ?_
            refine l1 (mvi rfl) ?_
            first | refine l1 (addn rfl rfl (ri (by omega) (by omega))) ?_ | refine l1 (add rfl rfl) ?_
            refine l1 (asgi rfl) ?_
            refine lnil ?_
            refine nround (rsucc ?_)
            refine cseq ?_
            refine cseq ?_
            refine creg ?_
            refine l1 (mvi rfl) ?_
            refine l1 (lss rfl rfl) ?_
            refine lnil ?_
            refine nthen ?_
            refine cift rfl ?_
            refine cskip ?_
            refine nthen ?_
            refine cseq ?_
            refine cblock ?_
            refine cseq ?_
            refine cregq mo (by kernel_rfl) ?_
            refine q1 (fa fa59_0 rfl) ?_
            refine q1 (ldc 2 Try.isAgg3 rfl rfl rfl) ?_
            refine q1 (neq rfl rfl) ?_
            refine q1 (mvb rfl) ?_
            refine q1g rfl (gwt rfl) (fun h => mvi rfl) ?_
            refine q1g rfl (gwt rfl) (fun h => fa fa43_2 rfl) ?_
            refine q1g rfl (gwt rfl) (fun h => ia ar41 (gvt h) (gvt h) (by decide) (by decide)) ?_
            refine q1g rfl (gwt rfl) (fun h => ldc (v := .bool ((behindG g x.writer y.op y.member y.cut).members 3)) 4 Try.isAgg4 rfl (gvt h) rfl) ?_
            refine q1g rfl (gwt rfl) (fun h => mvi rfl) ?_
            refine q1g rfl (gwt rfl) (fun h => fa fa59_3 rfl) ?_
            refine q1g rfl (gwt rfl) (fun h => ia ar57 (gvt h) (gvt h) (by decide) (by decide)) ?_
            refine q1g rfl (gwt rfl) (fun h => ldc (v := .slice (y.slots 3).p (y.slots 3).n (y.slots 3).c) 2 Try.isAgg56 rfl (gvt h) rfl) ?_
            refine q1g rfl (gwt rfl) (fun h => lens sl56 rfl (gvt h)) ?_
            refine q1g rfl (gwt rfl) (fun h => eql (gvt h) rfl) ?_
            refine q1g rfl (gwt rfl) (fun h => neqb Try.underlying4 (gvt h) (gvt h)) ?_
            refine q1 (pk_and rfl rfl rfl) ?_
            refine qnil ?_
            refine nthen ?_
            refine cif rfl (fun h6 => ?_) (fun h6 => ?_)
            · change (decide (y.op ≠ 5) && rmemB (behindG g x.writer y.op y.member y.cut) y 3) = _ at h6
              refine cseq ?_
              refine creg ?_
              refine l1 (bld0 bk43z) ?_
              refine lstw 3 rfl rfl rfl Try.sizeOf43 rfl rfl rfl ?_
              refine l1 (asgi rfl) ?_
              refine lnil ?_
              refine nthen ?_
              refine cret ?_
              refine nblkR ?_
              refine nthenR ?_
              refine nroundR ?_
              refine nblkR ?_
              refine nthenR ?_
              exact finP (rv2 rfl (rvc 3 Try.isAgg43 Try.sizeOf43 rfl rfl rfl rfl) (rvt rfl)) (by simp only [rappG, chk, h1, h2, h3, h4, h5, h6, cond_true, cond_false])
            · change (decide (y.op ≠ 5) && rmemB (behindG g x.writer y.op y.member y.cut) y 3) = _ at h6
              refine cskip ?_
              refine nblkN ?_
              refine nthen ?_
              refine creg ?_
              refine l1 (mvi rfl) ?_
              first | refine l1 (addn rfl rfl (ri (by omega) (by omega))) ?_ | refine l1 (add rfl rfl) ?_
              refine l1 (asgi rfl) ?_
              refine lnil ?_
              refine nround (rsucc ?_)
              refine cseq ?_
              refine cseq ?_
              refine creg ?_
              refine l1 (mvi rfl) ?_
              refine l1 (lss rfl rfl) ?_
              refine lnil ?_
              refine nthen ?_
              refine cift rfl ?_
              refine cskip ?_
              refine nthen ?_
              refine cseq ?_
              refine cblock ?_
              refine cseq ?_
              refine cregq mo (by kernel_rfl) ?_
              refine q1 (fa fa59_0 rfl) ?_
              refine q1 (ldc 2 Try.isAgg3 rfl rfl rfl) ?_
              refine q1 (neq rfl rfl) ?_
              refine q1 (mvb rfl) ?_
              refine q1g rfl (gwt rfl) (fun h => mvi rfl) ?_
              refine q1g rfl (gwt rfl) (fun h => fa fa43_2 rfl) ?_
              refine q1g rfl (gwt rfl) (fun h => ia ar41 (gvt h) (gvt h) (by decide) (by decide)) ?_
              refine q1g rfl (gwt rfl) (fun h => ldc (v := .bool ((behindG g x.writer y.op y.member y.cut).members 4)) 4 Try.isAgg4 rfl (gvt h) rfl) ?_
              refine q1g rfl (gwt rfl) (fun h => mvi rfl) ?_
              refine q1g rfl (gwt rfl) (fun h => fa fa59_3 rfl) ?_
              refine q1g rfl (gwt rfl) (fun h => ia ar57 (gvt h) (gvt h) (by decide) (by decide)) ?_
              refine q1g rfl (gwt rfl) (fun h => ldc (v := .slice (y.slots 4).p (y.slots 4).n (y.slots 4).c) 2 Try.isAgg56 rfl (gvt h) rfl) ?_
              refine q1g rfl (gwt rfl) (fun h => lens sl56 rfl (gvt h)) ?_
              refine q1g rfl (gwt rfl) (fun h => eql (gvt h) rfl) ?_
              refine q1g rfl (gwt rfl) (fun h => neqb Try.underlying4 (gvt h) (gvt h)) ?_
              refine q1 (pk_and rfl rfl rfl) ?_
              refine qnil ?_
              refine nthen ?_
              refine cif rfl (fun h7 => ?_) (fun h7 => ?_)
              · change (decide (y.op ≠ 5) && rmemB (behindG g x.writer y.op y.member y.cut) y 4) = _ at h7
                refine cseq ?_
                refine creg ?_
                refine l1 (bld0 bk43z) ?_
                refine lstw 3 rfl rfl rfl Try.sizeOf43 rfl rfl rfl ?_
                refine l1 (asgi rfl) ?_
                refine lnil ?_
                refine nthen ?_
                refine cret ?_
                refine nblkR ?_
                refine nthenR ?_
                refine nroundR ?_
                refine nblkR ?_
                refine nthenR ?_
                exact finP (rv2 rfl (rvc 3 Try.isAgg43 Try.sizeOf43 rfl rfl rfl rfl) (rvt rfl)) (by simp only [rappG, chk, h1, h2, h3, h4, h5, h6, h7, cond_true, cond_false])
              · change (decide (y.op ≠ 5) && rmemB (behindG g x.writer y.op y.member y.cut) y 4) = _ at h7
                refine cskip ?_
                refine nblkN ?_
                refine nthen ?_
                refine creg ?_
                refine l1 (mvi rfl) ?_
                first | refine l1 (addn rfl rfl (ri (by omega) (by omega))) ?_ | refine l1 (add rfl rfl) ?_
                refine l1 (asgi rfl) ?_
                refine lnil ?_
                refine nround (rsucc ?_)
                refine cseq ?_
                refine cseq ?_
                refine creg ?_
                refine l1 (mvi rfl) ?_
                refine l1 (lss rfl rfl) ?_
                refine lnil ?_
                refine nthen ?_
                refine cift rfl ?_
                refine cskip ?_
                refine nthen ?_
                refine cseq ?_
                refine cblock ?_
                refine cseq ?_
                refine cregq mo (by kernel_rfl) ?_
                refine q1 (fa fa59_0 rfl) ?_
                refine q1 (ldc 2 Try.isAgg3 rfl rfl rfl) ?_
                refine q1 (neq rfl rfl) ?_
                refine q1 (mvb rfl) ?_
                refine q1g rfl (gwt rfl) (fun h => mvi rfl) ?_
                refine q1g rfl (gwt rfl) (fun h => fa fa43_2 rfl) ?_
                refine q1g rfl (gwt rfl) (fun h => ia ar41 (gvt h) (gvt h) (by decide) (by decide)) ?_
                refine q1g rfl (gwt rfl) (fun h => ldc (v := .bool ((behindG g x.writer y.op y.member y.cut).members 5)) 4 Try.isAgg4 rfl (gvt h) rfl) ?_
                refine q1g rfl (gwt rfl) (fun h => mvi rfl) ?_
                refine q1g rfl (gwt rfl) (fun h => fa fa59_3 rfl) ?_
                refine q1g rfl (gwt rfl) (fun h => ia ar57 (gvt h) (gvt h) (by decide) (by decide)) ?_
                refine q1g rfl (gwt rfl) (fun h => ldc (v := .slice (y.slots 5).p (y.slots 5).n (y.slots 5).c) 2 Try.isAgg56 rfl (gvt h) rfl) ?_
                refine q1g rfl (gwt rfl) (fun h => lens sl56 rfl (gvt h)) ?_
                refine q1g rfl (gwt rfl) (fun h => eql (gvt h) rfl) ?_
                refine q1g rfl (gwt rfl) (fun h => neqb Try.underlying4 (gvt h) (gvt h)) ?_
                refine q1 (pk_and rfl rfl rfl) ?_
                refine qnil ?_
                refine nthen ?_
                refine cif rfl (fun h8 => ?_) (fun h8 => ?_)
                · change (decide (y.op ≠ 5) && rmemB (behindG g x.writer y.op y.member y.cut) y 5) = _ at h8
                  refine cseq ?_
                  refine creg ?_
                  refine l1 (bld0 bk43z) ?_
                  refine lstw 3 rfl rfl rfl Try.sizeOf43 rfl rfl rfl ?_
                  refine l1 (asgi rfl) ?_
                  refine lnil ?_
                  refine nthen ?_
                  refine cret ?_
                  refine nblkR ?_
                  refine nthenR ?_
                  refine nroundR ?_
                  refine nblkR ?_
                  refine nthenR ?_
                  exact finP (rv2 rfl (rvc 3 Try.isAgg43 Try.sizeOf43 rfl rfl rfl rfl) (rvt rfl)) (by simp only [rappG, chk, h1, h2, h3, h4, h5, h6, h7, h8, cond_true, cond_false])
                · change (decide (y.op ≠ 5) && rmemB (behindG g x.writer y.op y.member y.cut) y 5) = _ at h8
                  refine cskip ?_
                  refine nblkN ?_
                  refine nthen ?_
                  refine creg ?_
                  refine l1 (mvi rfl) ?_
                  first | refine l1 (addn rfl rfl (ri (by omega) (by omega))) ?_ | refine l1 (add rfl rfl) ?_
                  refine l1 (asgi rfl) ?_
                  refine lnil ?_
                  refine nround (rsucc ?_)
                  refine cseq ?_
                  refine cseq ?_
                  refine creg ?_
                  refine l1 (mvi rfl) ?_
                  refine l1 (lss rfl rfl) ?_
                  refine lnil ?_
                  refine nthen ?_
                  refine ciff rfl ?_
                  refine cexit ?_
                  refine nthenE ?_
                  refine nroundE ?_
                  refine nblkE ?_
                  refine nthen ?_
                  refine cseq ?_
                  refine creg ?_
                  refine l1 (ldw 4 Try.isAgg43 Try.sizeOf43 rfl rfl rfl) ?_
                  refine lstw 3 rfl rfl rfl Try.sizeOf43 rfl rfl rfl ?_
                  refine l1 (asgi rfl) ?_
                  refine lnil ?_
                  refine nthen ?_
                  refine cret ?_
                  exact finP (rv2 rfl (rvc 3 Try.isAgg43 Try.sizeOf43 rfl rfl rfl rfl) (rvt rfl)) (by simp only [rappG, chk, h1, h2, h3, h4, h5, h6, h7, h8, cond_true, cond_false])
end Go.Proofs.Ytkdbjhlkahkobaa
