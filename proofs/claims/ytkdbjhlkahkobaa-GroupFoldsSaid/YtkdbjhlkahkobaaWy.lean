/- walks, printed by a program of ours -/
import Derived.Test.YtkdbjhlkahkobaaTy
import Derived.Test.YtkdbjhlkahkobaaDef
import Derived.Test.YtkdbjhlkahkobaaWx
import Derived.Test.YtkdbjhlkahkobaaOrd2
namespace Go.Proofs.Ytkdbjhlkahkobaa
open Jal Go.RowKit
set_option maxRecDepth 100000
def madeH (s : Stp) : Hd := ⟨s.writer, 1, fun _ => 0, 0, true, 0, fun _ => 0, none, 0, 0, fun _ _ => 0, fun _ => 0, fun _ => 0, 80, fun _ => 0⟩
theorem bk37m (n : Int) : ∀ w, (Instr.build 37 #[(0, .int .i64 n), (1, .int .u64 1), (4, .bool true), (10, .int .i64 80)]).run Try.prog w = .ok (.agg (encH (madeH ⟨n, 0, 0, 0⟩)).toArray) w := fun w => by kernel_rfl
theorem bk59 (o m c : Int) : ∀ w, (Instr.build 59 #[(0, .int .i64 o), (1, .int .i64 m), (2, .int .u64 c)]).run Try.prog w = .ok (.agg (encC ⟨o, m, c, fun _ => Sv0, Sv0⟩).toArray) w := fun w => by kernel_rfl
theorem bk43z : ∀ w, (Instr.build 43 #[]).run Try.prog w = .ok (.agg (encG zeroG).toArray) w := fun w => by kernel_rfl
def zeros (n : Nat) : List Value := List.replicate n (.int .u8 0)
theorem ms56 : ∀ w : World, (Instr.makeSlice 56 (.int .i64 48) (.int .i64 48)).run Try.prog w = .ok (.slice (some ⟨w.heap.size, 0, none⟩) 48 48) (w.alloc (.cells (zeros 48).toArray 5)) := fun w => by kernel_rfl
structure CtOf (s : Stp) (c : Ct) : Prop where
  o : c.op = s.op
  m : c.member = s.member
  u : c.cut = s.cut
  s : ∀ i, i < 6 → (c.slots i).n ≤ 48
  h : c.hand.n ≤ 48
theorem CtOf.ok {s : Stp} {c : Ct} (h : CtOf s c) (k : StpOk s) : CtOk c := ⟨by rw [h.o]; exact k.o, by rw [h.m]; exact k.m, by rw [h.u]; exact k.c, fun i hi => by have := h.s i hi; omega, by have := h.h; omega⟩
theorem ctOf0 (s : Stp) : CtOf s ⟨s.op, s.member, s.cut, fun _ => Sv0, Sv0⟩ := ⟨rfl, rfl, rfl, fun i _ => by show 0 ≤ 48; decide, by show 0 ≤ 48; decide⟩
theorem CtOf.slot {s : Stp} {c : Ct} (h : CtOf s c) (i : Nat) (p : Option Addr) (k : Nat) : CtOf s { c with slots := us c.slots i ⟨p, 48, k⟩ } := ⟨h.o, h.m, h.u, fun j hj => by
  show (us c.slots i ⟨p, 48, k⟩ j).n ≤ 48
  unfold us
  cases Nat.beq j i with
  | true => exact Nat.le_refl _
  | false => exact h.s j hj, h.h⟩
theorem CtOf.hand {s : Stp} {c : Ct} (h : CtOf s c) (p : Option Addr) (k : Nat) : CtOf s { c with hand := ⟨p, 48, k⟩ } := ⟨h.o, h.m, h.u, h.s, Nat.le_refl _⟩
theorem madeOk {s : Stp} (k : StpOk s) : HdOk (madeH s) := ⟨k.w, by unfold U64; simp [madeH], by unfold I64; simp [madeH], by unfold U64; simp [madeH], by simp [madeH], fun i _ => by unfold U64; simp [madeH], by unfold I64; simp [madeH],
  fun i hi => by simp [madeH] at hi, fun j _ => by simp [madeH], fun j _ => by simp [madeH], fun j _ => by simp [madeH], fun j _ => by simp [madeH]⟩
theorem madeIn (w : World) (s : Stp) : HdIn w (madeH s) := ⟨.inl rfl⟩
def MadeR (s : Stp) (v : Value) (Hn : List Ent) : Prop := ∃ c, v = .tuple #[.agg (encH (madeH s)).toArray, .agg (encC c).toArray] ∧ Hn = [] ∧ CtOf s c

set_option maxHeartbeats 1000000 in
theorem made_calls (g : Grp) (z : Stp) (kz : StpOk z) (w : World) : Calls Try.prog 40 #[.agg (encG g).toArray, .agg (encS z).toArray] w (RetM (MadeR z) w) := by
  refine fn_calls (n := 54) Try.func40 rfl rfl (lb rfl) ?_
  refine cseq ?_
  refine creg ?_
  refine lbxa rfl (fun b1 => ?_)
  refine lbxa rfl (fun b2 => ?_)
  refine lal (zs := encH hz) Try.zeroValue37 rfl (fun b3 => ?_)
  refine lal (zs := encC zeroC) Try.zeroValue59 rfl (fun b4 => ?_)
  refine lnil ?_
  refine nthen ?_
  refine cseq ?_
  refine creg ?_
  refine l1 (fa fa45_0 rfl) ?_
  refine l1 (ldc 1 Try.isAgg3 rfl rfl rfl) ?_
  refine l1 (bldk (zs := encH (madeH z)) rfl (bk37m z.writer)) ?_
  refine lal (zs := encH hz) Try.zeroValue37 rfl (fun b5 => ?_)
  refine lstw 4 rfl rfl rfl Try.sizeOf37 rfl rfl rfl ?_
  refine lnil ?_
  refine nthen ?_
  refine cseq ?_
  refine creg ?_
  refine l1 (fa fa45_1 rfl) ?_
  refine l1 (ldc 1 Try.isAgg3 rfl rfl rfl) ?_
  refine l1 (fa fa45_2 rfl) ?_
  refine l1 (ldc 1 Try.isAgg3 rfl rfl rfl) ?_
  refine l1 (fa fa45_3 rfl) ?_
  refine l1 (ldc 1 Try.isAgg22 rfl rfl rfl) ?_
  refine l1 (bldk (zs := encC ⟨z.op, z.member, z.cut, fun _ => Sv0, Sv0⟩) rfl (bk59 z.op z.member z.cut)) ?_
  refine lal (zs := encC zeroC) Try.zeroValue59 rfl (fun b6 => ?_)
  refine lstw 5 rfl rfl rfl Try.sizeOf59 rfl rfl rfl ?_
  refine lnil ?_
  refine nthen ?_
  refine cseq ?_
  refine creg ?_
  refine l1 (ldw 0 Try.isAgg43 Try.sizeOf43 rfl rfl rfl) ?_
  refine l1 (fa fa45_0 rfl) ?_
  refine l1 (ldc 1 Try.isAgg3 rfl rfl rfl) ?_
  refine l1 (fa fa45_1 rfl) ?_
  refine l1 (ldc 1 Try.isAgg3 rfl rfl rfl) ?_
  refine l1 (fa fa45_2 rfl) ?_
  refine l1 (ldc 1 Try.isAgg3 rfl rfl rfl) ?_
  refine l1 (fa fa45_3 rfl) ?_
  refine l1 (ldc 1 Try.isAgg22 rfl rfl rfl) ?_
  refine l1 (cl hb37 rfl (mc rfl (mc rfl (mc rfl (mc rfl (mc rfl mn))))) (fun w hw => rbehind_calls g z.writer z.op z.member z.cut w)) ?_
  refine lal (zs := encG zeroG) Try.zeroValue43 rfl (fun b7 => ?_)
  refine lstw 6 rfl rfl rfl Try.sizeOf43 rfl rfl rfl ?_
  refine lnil ?_
  refine nthen ?_
  refine cseq ?_
  refine cseq ?_
  refine creg ?_
  refine l1 (asgi rfl) ?_
  refine lnil ?_
  refine nthen ?_
  refine cblock ?_
  refine cloopI (σ := Nat × Ct) (fun s => [(2, .pointer (some ⟨b1, 0, none⟩)), (3, .pointer (some ⟨b2, 0, none⟩)), (4, .pointer (some ⟨b3, 0, none⟩)), (5, .pointer (some ⟨b4, 0, none⟩)), (6, .pointer (some ⟨b5, 0, none⟩)), (7, .pointer (some ⟨b6, 0, none⟩)), (8, .pointer (some ⟨b7, 0, none⟩)), (9, .int .i64 (s.1 : Int))]) (fun s => [⟨b1, encG g, 43⟩, ⟨b2, encS z, 45⟩, ⟨b3, encH hz, 37⟩, ⟨b4, encC zeroC, 59⟩, ⟨b5, encH (madeH z), 37⟩, ⟨b6, encC s.2, 59⟩, ⟨b7, encG (behindG g z.writer z.op z.member z.cut), 43⟩]) (fun s => s.1 ≤ 6 ∧ CtOf z s.2) (fun s => 6 - s.1) (0, ⟨z.op, z.member, z.cut, fun _ => Sv0, Sv0⟩) ⟨Nat.zero_le _, ctOf0 z⟩ ⟨rfl, rfl, rfl, rfl, rfl, rfl, rfl, rfl, trivial⟩ (List.Sublist.refl _) ?_
  rintro ⟨i, c⟩ j ⟨hi, hc⟩; replace hi : i ≤ 6 := hi; replace hc : CtOf z c := hc
  show WC _ _ _ ([⟨b1, encG g, 43⟩, ⟨b2, encS z, 45⟩, ⟨b3, encH hz, 37⟩, ⟨b4, encC zeroC, 59⟩, ⟨b5, encH (madeH z), 37⟩, ⟨b6, encC c, 59⟩, ⟨b7, encG (behindG g z.writer z.op z.member z.cut), 43⟩]) _ _ (over j [(2, .pointer (some ⟨b1, 0, none⟩)), (3, .pointer (some ⟨b2, 0, none⟩)), (4, .pointer (some ⟨b3, 0, none⟩)), (5, .pointer (some ⟨b4, 0, none⟩)), (6, .pointer (some ⟨b5, 0, none⟩)), (7, .pointer (some ⟨b6, 0, none⟩)), (8, .pointer (some ⟨b7, 0, none⟩)), (9, .int .i64 (i : Int))])
  refine cseq ?_
  refine cseq ?_
  refine creg ?_
  refine l1 (mvi rfl) ?_
  refine l1 (lss rfl rfl) ?_
  refine lnil ?_
  refine nthen ?_
  refine cif rfl (fun h1 => ?_) (fun h1 => ?_)
  · have hlt : i < 6 := by (have := dt h1; omega)
    refine cskip ?_
    refine nthen ?_
    refine cseq ?_
    refine cblock ?_
    refine cseq ?_
    refine creg ?_
    refine l1 (fa fa45_1 rfl) ?_
    refine l1 (ldc 1 Try.isAgg3 rfl rfl rfl) ?_
    refine l1 (neq rfl rfl) ?_
    refine l1 (mvb rfl) ?_
    refine l1g rfl (gwt rfl) (fun h => mvi rfl) ?_
    refine l1g rfl (gwt rfl) (fun h => fa fa43_2 rfl) ?_
    refine l1g rfl (gwt rfl) (fun h => ia ar41 (gvt h) (gvt h) (by omega) (by omega)) ?_
    refine l1g rfl (gwt rfl) (fun h => ldc (v := .bool ((behindG g z.writer z.op z.member z.cut).members i)) 6 Try.isAgg4 rfl (gvt h) (encG_members _ _ (by omega))) ?_
    refine l1 (pk_and rfl rfl rfl) ?_
    refine lnil ?_
    refine nthen ?_
    refine cif rfl (fun h2 => ?_) (fun h2 => ?_)
    · skip
      refine creg ?_
      refine l1 (mvi rfl) ?_
      refine lmk rfl rfl (ms56) (fun b8 => ?_)
      refine l1 (fa fa59_3 rfl) ?_
      refine l1 (ia ar57 rfl rfl (by omega) (by omega)) ?_
      refine lsts 5 rfl rfl rfl Try.sizeOf56 (by rw [show (encC c).length = 10 from rfl]; omega) (encC_setSlot c i _ _ _ (by omega)) ?_
      refine lnil ?_
      refine nblkN ?_
      refine nthen ?_
      refine creg ?_
      refine l1 (mvi rfl) ?_
      first | refine l1 (addn rfl rfl (ri (by omega) (by omega))) ?_ | refine l1 (add rfl rfl) ?_
      refine l1 (asgi rfl) ?_
      refine lnil ?_
      first | exact nI (i + 1, { c with slots := us c.slots i ⟨some ⟨b8, 0, none⟩, 48, 48⟩ }) ⟨by omega, hc.slot i _ _⟩ (by show 6 - (i + 1) < 6 - i; omega) ⟨rfl, rfl, rfl, rfl, rfl, rfl, rfl, rfl, trivial⟩ (List.Sublist.cons_cons _ (List.Sublist.cons_cons _ (List.Sublist.cons_cons _ (List.Sublist.cons_cons _ (List.Sublist.cons_cons _ (List.Sublist.cons_cons _ (List.Sublist.cons_cons _ (List.nil_sublist _)))))))) | exact nI (i + 1, c) ⟨by omega, hc⟩ (by show 6 - (i + 1) < 6 - i; omega) ⟨rfl, rfl, rfl, rfl, rfl, rfl, rfl, rfl, trivial⟩ (List.Sublist.cons_cons _ (List.Sublist.cons_cons _ (List.Sublist.cons_cons _ (List.Sublist.cons_cons _ (List.Sublist.cons_cons _ (List.Sublist.cons_cons _ (List.Sublist.cons_cons _ (List.nil_sublist _))))))))
    · skip
      refine cskip ?_
      refine nblkN ?_
      refine nthen ?_
      refine creg ?_
      refine l1 (mvi rfl) ?_
      first | refine l1 (addn rfl rfl (ri (by omega) (by omega))) ?_ | refine l1 (add rfl rfl) ?_
      refine l1 (asgi rfl) ?_
      refine lnil ?_
      first | exact nI (i + 1, { c with slots := us c.slots i ⟨some ⟨b8, 0, none⟩, 48, 48⟩ }) ⟨by omega, hc.slot i _ _⟩ (by show 6 - (i + 1) < 6 - i; omega) ⟨rfl, rfl, rfl, rfl, rfl, rfl, rfl, rfl, trivial⟩ (List.Sublist.cons_cons _ (List.Sublist.cons_cons _ (List.Sublist.cons_cons _ (List.Sublist.cons_cons _ (List.Sublist.cons_cons _ (List.Sublist.cons_cons _ (List.Sublist.cons_cons _ (List.nil_sublist _)))))))) | exact nI (i + 1, c) ⟨by omega, hc⟩ (by show 6 - (i + 1) < 6 - i; omega) ⟨rfl, rfl, rfl, rfl, rfl, rfl, rfl, rfl, trivial⟩ (List.Sublist.cons_cons _ (List.Sublist.cons_cons _ (List.Sublist.cons_cons _ (List.Sublist.cons_cons _ (List.Sublist.cons_cons _ (List.Sublist.cons_cons _ (List.Sublist.cons_cons _ (List.nil_sublist _))))))))
  · skip
    refine cexit ?_
    refine nthenE ?_
    refine nIE ?_
    refine nblkE ?_
    refine nthen ?_
    refine cseq ?_
    refine cseq ?_
    refine creg ?_
    refine l1 (fa fa45_1 rfl) ?_
    refine l1 (ldc 1 Try.isAgg3 rfl rfl rfl) ?_
    refine l1 (eql rfl rfl) ?_
    refine lnil ?_
    refine nthen ?_
    refine cif rfl (fun h3 => ?_) (fun h3 => ?_)
    · skip
      refine creg ?_
      refine lmk rfl rfl (ms56) (fun b9 => ?_)
      refine l1 (fa fa59_4 rfl) ?_
      refine lsts 5 rfl rfl rfl Try.sizeOf56 (lb rfl) (encC_setHand c _ _ _) ?_
      refine lnil ?_
      refine nthen ?_
      refine cseq ?_
      refine cregH (fun x : List Value × List Value => ⟨b1, encG g, 43⟩ :: ⟨b2, encS z, 45⟩ :: ⟨b3, x.1, 37⟩ :: ⟨b4, x.2, 59⟩ :: ⟨b5, encH (madeH z), 37⟩ :: ⟨b6, encC { c with hand := ⟨some ⟨b9, 0, none⟩, 48, 48⟩ }, 59⟩ :: []) 4 mo rfl ?_
      refine hq1 0 rfl (by kernel_rfl) (by kernel_rfl) (by kernel_rfl) (fun c a w h => h) (.inl ⟨_, rfl⟩) (fun w hw => ⟨(encH hz, encC zeroC), hw.sub (List.Sublist.cons_cons _ (List.Sublist.cons_cons _ (List.Sublist.cons_cons _ (List.Sublist.cons_cons _ (List.Sublist.cons_cons _ (List.Sublist.cons_cons _ (List.nil_sublist _)))))))⟩) (fun T => ldw 4 Try.isAgg37 Try.sizeOf37 rfl rfl rfl) ?_
      refine hq1 1 rfl (by kernel_rfl) (by kernel_rfl) (by kernel_rfl) (fun c a w h => h) (.inl ⟨_, rfl⟩) (fun w hw => ⟨(encH hz, encC zeroC), hw.sub (List.Sublist.cons_cons _ (List.Sublist.cons_cons _ (List.Sublist.cons_cons _ (List.Sublist.cons_cons _ (List.Sublist.cons_cons _ (List.Sublist.cons_cons _ (List.nil_sublist _)))))))⟩) (fun T => ldw 5 Try.isAgg59 Try.sizeOf59 rfl rfl rfl) ?_
      refine he 2 (by kernel_rfl) rfl ?_
      refine lstw 2 rfl rfl rfl Try.sizeOf37 rfl rfl rfl ?_
      refine hnil (fun w hw => ⟨(encH (madeH z), encC zeroC), hw.sub (List.Sublist.cons_cons _ (List.Sublist.cons_cons _ (List.Sublist.cons_cons _ (List.Sublist.cons_cons _ (List.Sublist.cons_cons _ (List.Sublist.cons_cons _ (List.nil_sublist _)))))))⟩) ?_
      refine he 3 (by kernel_rfl) rfl ?_
      refine lstw 3 rfl rfl rfl Try.sizeOf59 rfl rfl rfl ?_
      refine hnil (fun w hw => ⟨(encH (madeH z), encC _), hw.sub (List.Sublist.cons_cons _ (List.Sublist.cons_cons _ (List.Sublist.cons_cons _ (List.Sublist.cons_cons _ (List.Sublist.cons_cons _ (List.Sublist.cons_cons _ (List.nil_sublist _)))))))⟩) ?_
      refine hend (by kernel_rfl) ?_
      refine nthen ?_
      refine cret ?_
      exact finM _ [] (rv2 rfl (rvc 2 Try.isAgg37 Try.sizeOf37 rfl rfl rfl rfl) (rvc 3 Try.isAgg59 Try.sizeOf59 rfl rfl rfl rfl)) ⟨[], List.Perm.refl _, List.nil_sublist _⟩ (by first | exact ⟨_, rfl, rfl, hc⟩ | exact ⟨_, rfl, rfl, hc.hand _ _⟩)
    · skip
      refine cskip ?_
      refine nthen ?_
      refine cseq ?_
      refine cregH (fun x : List Value × List Value => ⟨b1, encG g, 43⟩ :: ⟨b2, encS z, 45⟩ :: ⟨b3, x.1, 37⟩ :: ⟨b4, x.2, 59⟩ :: ⟨b5, encH (madeH z), 37⟩ :: ⟨b6, encC c, 59⟩ :: []) 4 mo rfl ?_
      refine hq1 0 rfl (by kernel_rfl) (by kernel_rfl) (by kernel_rfl) (fun c a w h => h) (.inl ⟨_, rfl⟩) (fun w hw => ⟨(encH hz, encC zeroC), hw.sub (List.Sublist.cons_cons _ (List.Sublist.cons_cons _ (List.Sublist.cons_cons _ (List.Sublist.cons_cons _ (List.Sublist.cons_cons _ (List.Sublist.cons_cons _ (List.nil_sublist _)))))))⟩) (fun T => ldw 4 Try.isAgg37 Try.sizeOf37 rfl rfl rfl) ?_
      refine hq1 1 rfl (by kernel_rfl) (by kernel_rfl) (by kernel_rfl) (fun c a w h => h) (.inl ⟨_, rfl⟩) (fun w hw => ⟨(encH hz, encC zeroC), hw.sub (List.Sublist.cons_cons _ (List.Sublist.cons_cons _ (List.Sublist.cons_cons _ (List.Sublist.cons_cons _ (List.Sublist.cons_cons _ (List.Sublist.cons_cons _ (List.nil_sublist _)))))))⟩) (fun T => ldw 5 Try.isAgg59 Try.sizeOf59 rfl rfl rfl) ?_
      refine he 2 (by kernel_rfl) rfl ?_
      refine lstw 2 rfl rfl rfl Try.sizeOf37 rfl rfl rfl ?_
      refine hnil (fun w hw => ⟨(encH (madeH z), encC zeroC), hw.sub (List.Sublist.cons_cons _ (List.Sublist.cons_cons _ (List.Sublist.cons_cons _ (List.Sublist.cons_cons _ (List.Sublist.cons_cons _ (List.Sublist.cons_cons _ (List.nil_sublist _)))))))⟩) ?_
      refine he 3 (by kernel_rfl) rfl ?_
      refine lstw 3 rfl rfl rfl Try.sizeOf59 rfl rfl rfl ?_
      refine hnil (fun w hw => ⟨(encH (madeH z), encC _), hw.sub (List.Sublist.cons_cons _ (List.Sublist.cons_cons _ (List.Sublist.cons_cons _ (List.Sublist.cons_cons _ (List.Sublist.cons_cons _ (List.Sublist.cons_cons _ (List.nil_sublist _)))))))⟩) ?_
      refine hend (by kernel_rfl) ?_
      refine nthen ?_
      refine cret ?_
      exact finM _ [] (rv2 rfl (rvc 2 Try.isAgg37 Try.sizeOf37 rfl rfl rfl rfl) (rvc 3 Try.isAgg59 Try.sizeOf59 rfl rfl rfl rfl)) ⟨[], List.Perm.refl _, List.nil_sublist _⟩ (by first | exact ⟨_, rfl, rfl, hc⟩ | exact ⟨_, rfl, rfl, hc.hand _ _⟩)
end Go.Proofs.Ytkdbjhlkahkobaa
