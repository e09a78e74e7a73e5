/- several texts of ours, joined: Yj, Yl, Ym, Dec, Dc, Dv, Dh, Dr, Dt -/
import Derived.Test.YtkdbjhlkahkobaaZa
import Derived.Test.YtkdbjhlkahkobaaZg
import Derived.ProofKit
import Derived.OpenShut
import Derived.Deep.Slices
import Derived.ShutString
import Derived.ChangeOld
import Derived.Carry
import Derived.Test.YtkdbjhlkahkobaaProg
import Derived.KernelRfl
import Derived.Test.YtkdbjhlkahkobaaZc
import Derived.WideShapes
import Derived.Test.YtkdbjhlkahkobaaZe
/- walks, printed by a program of ours -/
namespace Go.Proofs.Ytkdbjhlkahkobaa
open Jal Go.RowKit
set_option maxRecDepth 100000
theorem bk83z2 : ∀ w, (Instr.build 83 #[]).run Try.prog w = .ok (.agg (encI iz).toArray) w := fun w => by kernel_rfl
theorem bk83b (t : Nat → Int) (h : Hd) (k : Bool) : ∀ w, (Instr.build 83 #[(0, .agg (arr .u8 16 t).toArray), (1, .agg (encH h).toArray), (2, .bool k)]).run Try.prog w = .ok (.agg (encI ⟨t, h, k, false, ByteArray.empty, none, 0, 0, fun _ => ByteArray.empty, ByteArray.empty⟩).toArray) w := fun w => by kernel_rfl
theorem encI_setName (i : It) (v : ByteArray) : (encI i).set 143 (.string v) = encI { i with name := v } := rfl

theorem IxOk.lt {q : Rw → Bool} {C : List Rw} {tok : Nat → Int} {i : Nat} {a : Int} (h : IxOk q C tok i a) (hi : i ≤ C.length) : a < (C.length : Int) := by
  rcases h with ⟨h, _⟩ | ⟨k, h, h2, _⟩ <;> omega

theorem lat_rz {q : Rw → Bool} {L : List Rw} (h : (latR q L).2 = false) : latR q L = (rz, false) := by
  unfold latR at h ⊢
  cases hd : decide (((L.filter q).length : Int) = 0) with
  | true => rfl
  | false => rw [hd] at h; cases h
theorem val_known {L : List Rw} (h : (latR knownR L).2 = false) : (latR valuedR L).2 = false := by
  cases hv : (latR valuedR L).2 with
  | false => rfl
  | true =>
    obtain ⟨h1, h2⟩ := lat_in valuedR L hv
    have h3 : knownR (latR valuedR L).1 = true := by unfold valuedR at h2; rw [Bool.and_eq_true] at h2; exact h2.1
    rw [(lat_ge knownR L _ h1 h3).1] at h; cases h
theorem made_alive {tok : Nat → Int} {R : List Rw} {A K V : Rw} (hA : latR anyR R = (A, true)) (hK : latR knownR R = (K, true)) (hV : latR valuedR R = (V, true)) (ho : V.ch.op = 1) :
    madeI tok R = ⟨tok, A.hd, A.known, true, K.ch.name, K.ch.gp, K.ch.gn, K.ch.gc, K.ch.tag, V.ch.value⟩ := by
  unfold madeI; rw [hA, hK, hV]; simp [ho]
theorem made_dead {tok : Nat → Int} {R : List Rw} {A : Rw} (hA : latR anyR R = (A, true)) (h : ((latR valuedR R).2 && decide ((latR valuedR R).1.ch.op = 1)) = false) :
    madeI tok R = ⟨tok, A.hd, A.known, false, (latR knownR R).1.ch.name, none, 0, 0, fun _ => ByteArray.empty, ByteArray.empty⟩ := by
  unfold madeI; rw [h, hA]; rfl

set_option maxHeartbeats 2000000 in
theorem rof_calls (w : World) (tok : Nat → Int) (p : Option Addr) (n c : Nat) (C : List Rw) (hC : C.length = n) (hn : n ≤ 100) (hl : Sl w p n 130 (fun i => encR (C.getD i rz))) : Calls Try.prog 52 #[.slice p n c, .agg (arr .u8 16 tok).toArray] w (Ret (.tuple #[.agg (encI (oI tok C).1).toArray, .bool (oI tok C).2]) w) := by
  refine fn_calls (n := 131) Try.func52 rfl rfl (lb rfl) ?_
  refine cseq ?_
  refine creg ?_
  refine lbxa rfl (fun b1 => ?_)
  refine lal (zs := encI iz) Try.zeroValue83 rfl (fun b2 => ?_)
  refine l1 (asgb rfl) ?_
  refine lnil ?_
  refine nthen ?_
  refine cseq ?_
  refine creg ?_
  refine l1 (asg rfl) ?_
  refine l1 (asg rfl) ?_
  refine l1 (asg rfl) ?_
  refine lnil ?_
  refine nthen ?_
  refine cseq ?_
  refine cseq ?_
  refine creg ?_
  refine l1 (asgi rfl) ?_
  refine lnil ?_
  refine nthen ?_
  refine cblock ?_
  refine cloopI (σ := Nat × Int × Int × Int) (fun s => [(0, .slice p n c), (3, .pointer (some ⟨b1, 0, none⟩)), (4, .pointer (some ⟨b2, 0, none⟩)), (5, .bool false), (6, .int .i64 s.2.1), (7, .int .i64 s.2.2.1), (8, .int .i64 s.2.2.2), (9, .int .i64 (s.1 : Int))]) (fun s => [⟨b1, arr .u8 16 tok, 34⟩, ⟨b2, encI iz, 83⟩]) (fun s => s.1 ≤ n ∧ IxOk anyR C tok s.1 s.2.1 ∧ IxOk knownR C tok s.1 s.2.2.1 ∧ IxOk valuedR C tok s.1 s.2.2.2) (fun s => n - s.1) (0, -1, -1, -1) ⟨Nat.zero_le _, IxOk.start _ _ _, IxOk.start _ _ _, IxOk.start _ _ _⟩ ⟨rfl, rfl, rfl, rfl, rfl, rfl, rfl, rfl, trivial⟩ (List.Sublist.refl _) ?_
  rintro ⟨i, a, k, v⟩ j hI; replace hI : i ≤ n ∧ IxOk anyR C tok i a ∧ IxOk knownR C tok i k ∧ IxOk valuedR C tok i v := hI; obtain ⟨hi, hA, hK, hV⟩ := hI
  show WC _ _ _ ([⟨b1, arr .u8 16 tok, 34⟩, ⟨b2, encI iz, 83⟩]) _ _ (over j [(0, .slice p n c), (3, .pointer (some ⟨b1, 0, none⟩)), (4, .pointer (some ⟨b2, 0, none⟩)), (5, .bool false), (6, .int .i64 a), (7, .int .i64 k), (8, .int .i64 v), (9, .int .i64 (i : Int))])
  refine cseq ?_
  refine cseq ?_
  refine creg ?_
  refine l1 (mvi rfl) ?_
  refine l1 (mvs rfl) ?_
  refine l1 (lens sl74 rfl rfl) ?_
  refine l1 (lss rfl rfl) ?_
  refine lnil ?_
  refine nthen ?_
  refine cif rfl (fun h1 => ?_) (fun h1 => ?_)
  · have hlt : i < n := by (have := dt h1; omega)
    obtain ⟨b, o, hp, hbl, hm⟩ := hl.at hlt
    have hab : a < (n : Int) := by (have := hA.lt (by omega); omega)
    have hkb : k < (n : Int) := by (have := hK.lt (by omega); omega)
    have hvb : v < (n : Int) := by (have := hV.lt (by omega); omega)
    refine cskip ?_
    refine nthen ?_
    refine cseq ?_
    refine cblock ?_
    refine cseq ?_
    refine creg ?_
    refine l1 (mvs rfl) ?_
    refine l1 (mvi rfl) ?_
    refine l1 (isp sl74 hp rfl rfl (by omega) (by omega)) ?_
    refine l1 (ldam (vs := encR (C.getD i rz)) Try.isAgg79 Try.sizeOf79 rfl rfl (fun w' hw => (hm i hlt).kept hw.below hbl)) ?_
    refine lal (zs := encR rz) Try.zeroValue79 rfl (fun b3 => ?_)
    refine lstw 2 rfl rfl rfl Try.sizeOf79 rfl rfl rfl ?_
    refine lnil ?_
    refine nthen ?_
    refine cseq ?_
    refine cseq ?_
    refine creg ?_
    refine l1 (fa fa79_0 rfl) ?_
    refine l1 (fa fa37_6 rfl) ?_
    refine l1 (lda 2 Try.isAgg34 Try.sizeOf34 rfl rfl (encR_item _) rfl) ?_
    refine l1 (ldw 0 Try.isAgg34 Try.sizeOf34 rfl rfl rfl) ?_
    refine l1 (neqa rfl rfl (fun w => neql34 _ _ w)) ?_
    refine lnil ?_
    refine nthen ?_
    refine cif rfl (fun h2 => ?_) (fun h2 => ?_)
    · have he : eqA 16 tok (C.getD i rz).hd.item = false := by (rw [eqA_comm]; simpa using h2)
      have hA2 := hA.skip (by omega) he
      have hK2 := hK.skip (by omega) he
      have hV2 := hV.skip (by omega) he
      refine cexit ?_
      refine nthenE ?_
      refine nblkE ?_
      refine nthen ?_
      refine creg ?_
      refine l1 (mvi rfl) ?_
      first | refine l1 (addn rfl rfl (ri (by omega) (by omega))) ?_ | refine l1 (add rfl rfl) ?_
      refine l1 (asgi rfl) ?_
      refine lnil ?_
      exact nI (i + 1, _, _, _) ⟨(by show i + 1 ≤ n; omega), hA2, hK2, hV2⟩ (by show n - (i + 1) < n - i; omega) ⟨rfl, rfl, rfl, rfl, rfl, rfl, rfl, rfl, trivial⟩ (List.Sublist.cons_cons _ (List.Sublist.cons_cons _ (List.Sublist.cons _ (List.Sublist.refl _))))
    · have he : eqA 16 tok (C.getD i rz).hd.item = true := by (rw [eqA_comm]; simpa using h2)
      refine cskip ?_
      refine nthen ?_
      refine cseq ?_
      refine cseq ?_
      refine cregq mo (by kernel_rfl) ?_
      refine q1 (mvi rfl) ?_
      refine q1 (lss rfl rfl) ?_
      refine q1 (mvb rfl) ?_
      refine q1g rfl (gwf rfl) (fun h => fa fa79_0 rfl) ?_
      refine q1g rfl (gwf rfl) (fun h => lda 2 Try.isAgg37 Try.sizeOf37 rfl (gvt h) (encR_hd _) rfl) ?_
      refine q1g rfl (gwf rfl) (fun h => mvs rfl) ?_
      refine q1g rfl (gwf rfl) (fun h => mvi rfl) ?_
      refine q1g rfl (gwf rfl) (fun h => isp (b := pb p) (o := po p) sl74 (hl.hp (i := a.toNat) (by (have := hab; simp at h; omega))) (gvt h) (gvt h) (by simp at h; omega) (by (have := hab; simp at h; omega))) ?_
      refine q1g rfl (gwf rfl) (fun h => fa fa79_0 (gvt h)) ?_
      refine q1g rfl (gwf rfl) (fun h => ldam (vs := encH (C.getD a.toNat rz).hd) Try.isAgg37 Try.sizeOf37 (gvt h) rfl (fun w' hw => mem_part 0 125 (hl.memP (i := a.toNat) (by (have := hab; simp at h; omega)) hw.below))) ?_
      refine q1g rfl (gwf rfl) (fun h => cl hb30 rfl (mc (gvt h) (mc (gvt h) mn)) (fun w hw => rlater_calls _ _ w)) ?_
      refine q1 (pk_or rfl rfl rfl) ?_
      refine qnil ?_
      refine nthen ?_
      refine cif rfl (fun h3 => ?_) (fun h3 => ?_)
      · have hA2 := hA.yes (by omega) he h3
        refine creg ?_
        refine l1 (mvi rfl) ?_
        refine l1 (asg rfl) ?_
        refine lnil ?_
        refine nthen ?_
        refine cseq ?_
        refine cseq ?_
        refine cregq mo (by kernel_rfl) ?_
        refine q1 (fa fa79_1 rfl) ?_
        refine q1 (ldc 2 Try.isAgg4 rfl rfl rfl) ?_
        refine q1 (mvb rfl) ?_
        refine q1g rfl (gwt rfl) (fun h => mvi rfl) ?_
        refine q1g rfl (gwt rfl) (fun h => lss (gvt h) rfl) ?_
        refine q1g rfl (gwt rfl) (fun h => mvb (gvt h)) ?_
        refine q1g rfl (ggf rfl) (fun h => fa fa79_0 rfl) ?_
        refine q1g rfl (ggf rfl) (fun h => lda 2 Try.isAgg37 Try.sizeOf37 rfl (gvt h) (encR_hd _) rfl) ?_
        refine q1g rfl (ggf rfl) (fun h => mvs rfl) ?_
        refine q1g rfl (ggf rfl) (fun h => mvi rfl) ?_
        refine q1g rfl (ggf rfl) (fun h => isp (b := pb p) (o := po p) sl74 (hl.hp (i := k.toNat) (by (have := hkb; simp at h; omega))) (gvt h) (gvt h) (by simp at h; omega) (by (have := hkb; simp at h; omega))) ?_
        refine q1g rfl (ggf rfl) (fun h => fa fa79_0 (gvt h)) ?_
        refine q1g rfl (ggf rfl) (fun h => ldam (vs := encH (C.getD k.toNat rz).hd) Try.isAgg37 Try.sizeOf37 (gvt h) rfl (fun w' hw => mem_part 0 125 (hl.memP (i := k.toNat) (by (have := hkb; simp at h; omega)) hw.below))) ?_
        refine q1g rfl (ggf rfl) (fun h => cl hb30 rfl (mc (gvt h) (mc (gvt h) mn)) (fun w hw => rlater_calls _ _ w)) ?_
        refine q1g rfl (gwt rfl) (fun h => pk_or (gvt h) rfl (gva h)) ?_
        refine q1 (pk_and rfl rfl rfl) ?_
        refine qnil ?_
        refine nthen ?_
        refine cif rfl (fun h4 => ?_) (fun h4 => ?_)
        · have hK2 := hK.yes (by omega) he h4
          refine creg ?_
          refine l1 (mvi rfl) ?_
          refine l1 (asg rfl) ?_
          refine lnil ?_
          refine nthen ?_
          refine cseq ?_
          refine cregq mo (by kernel_rfl) ?_
          refine q1 (fa fa79_1 rfl) ?_
          refine q1 (ldc 2 Try.isAgg4 rfl rfl rfl) ?_
          refine q1 (mvb rfl) ?_
          refine q1g rfl (gwt rfl) (fun h => fa fa79_2 rfl) ?_
          refine q1g rfl (gwt rfl) (fun h => fa fa77_0 (gvt h)) ?_
          refine q1g rfl (gwt rfl) (fun h => ldc 2 Try.isAgg3 rfl (gvt h) rfl) ?_
          refine q1g rfl (gwt rfl) (fun h => neq (gvt h) rfl) ?_
          refine q1 (pk_and rfl rfl rfl) ?_
          refine q1 (mvb rfl) ?_
          refine q1g rfl (gwt rfl) (fun h => mvi rfl) ?_
          refine q1g rfl (gwt rfl) (fun h => lss (gvt h) rfl) ?_
          refine q1g rfl (gwt rfl) (fun h => mvb (gvt h)) ?_
          refine q1g rfl (ggf rfl) (fun h => fa fa79_0 rfl) ?_
          refine q1g rfl (ggf rfl) (fun h => lda 2 Try.isAgg37 Try.sizeOf37 rfl (gvt h) (encR_hd _) rfl) ?_
          refine q1g rfl (ggf rfl) (fun h => mvs rfl) ?_
          refine q1g rfl (ggf rfl) (fun h => mvi rfl) ?_
          refine q1g rfl (ggf rfl) (fun h => isp (b := pb p) (o := po p) sl74 (hl.hp (i := v.toNat) (by (have := hvb; simp at h; omega))) (gvt h) (gvt h) (by simp at h; omega) (by (have := hvb; simp at h; omega))) ?_
          refine q1g rfl (ggf rfl) (fun h => fa fa79_0 (gvt h)) ?_
          refine q1g rfl (ggf rfl) (fun h => ldam (vs := encH (C.getD v.toNat rz).hd) Try.isAgg37 Try.sizeOf37 (gvt h) rfl (fun w' hw => mem_part 0 125 (hl.memP (i := v.toNat) (by (have := hvb; simp at h; omega)) hw.below))) ?_
          refine q1g rfl (ggf rfl) (fun h => cl hb30 rfl (mc (gvt h) (mc (gvt h) mn)) (fun w hw => rlater_calls _ _ w)) ?_
          refine q1g rfl (gwt rfl) (fun h => pk_or (gvt h) rfl (gva h)) ?_
          refine q1 (pk_and rfl rfl rfl) ?_
          refine qnil ?_
          refine nthen ?_
          refine cif rfl (fun h5 => ?_) (fun h5 => ?_)
          · have hV2 := hV.yes (by omega) he h5
            refine creg ?_
            refine l1 (mvi rfl) ?_
            refine l1 (asg rfl) ?_
            refine lnil ?_
            refine nblkN ?_
            refine nthen ?_
            refine creg ?_
            refine l1 (mvi rfl) ?_
            first | refine l1 (addn rfl rfl (ri (by omega) (by omega))) ?_ | refine l1 (add rfl rfl) ?_
            refine l1 (asgi rfl) ?_
            refine lnil ?_
            exact nI (i + 1, _, _, _) ⟨(by show i + 1 ≤ n; omega), hA2, hK2, hV2⟩ (by show n - (i + 1) < n - i; omega) ⟨rfl, rfl, rfl, rfl, rfl, rfl, rfl, rfl, trivial⟩ (List.Sublist.cons_cons _ (List.Sublist.cons_cons _ (List.Sublist.cons _ (List.Sublist.refl _))))
          · have hV2 := hV.no (by omega) he h5
            refine cskip ?_
            refine nblkN ?_
            refine nthen ?_
            refine creg ?_
            refine l1 (mvi rfl) ?_
            first | refine l1 (addn rfl rfl (ri (by omega) (by omega))) ?_ | refine l1 (add rfl rfl) ?_
            refine l1 (asgi rfl) ?_
            refine lnil ?_
            exact nI (i + 1, _, _, _) ⟨(by show i + 1 ≤ n; omega), hA2, hK2, hV2⟩ (by show n - (i + 1) < n - i; omega) ⟨rfl, rfl, rfl, rfl, rfl, rfl, rfl, rfl, trivial⟩ (List.Sublist.cons_cons _ (List.Sublist.cons_cons _ (List.Sublist.cons _ (List.Sublist.refl _))))
        · have hK2 := hK.no (by omega) he h4
          refine cskip ?_
          refine nthen ?_
          refine cseq ?_
          refine cregq mo (by kernel_rfl) ?_
          refine q1 (fa fa79_1 rfl) ?_
          refine q1 (ldc 2 Try.isAgg4 rfl rfl rfl) ?_
          refine q1 (mvb rfl) ?_
          refine q1g rfl (gwt rfl) (fun h => fa fa79_2 rfl) ?_
          refine q1g rfl (gwt rfl) (fun h => fa fa77_0 (gvt h)) ?_
          refine q1g rfl (gwt rfl) (fun h => ldc 2 Try.isAgg3 rfl (gvt h) rfl) ?_
          refine q1g rfl (gwt rfl) (fun h => neq (gvt h) rfl) ?_
          refine q1 (pk_and rfl rfl rfl) ?_
          refine q1 (mvb rfl) ?_
          refine q1g rfl (gwt rfl) (fun h => mvi rfl) ?_
          refine q1g rfl (gwt rfl) (fun h => lss (gvt h) rfl) ?_
          refine q1g rfl (gwt rfl) (fun h => mvb (gvt h)) ?_
          refine q1g rfl (ggf rfl) (fun h => fa fa79_0 rfl) ?_
          refine q1g rfl (ggf rfl) (fun h => lda 2 Try.isAgg37 Try.sizeOf37 rfl (gvt h) (encR_hd _) rfl) ?_
          refine q1g rfl (ggf rfl) (fun h => mvs rfl) ?_
          refine q1g rfl (ggf rfl) (fun h => mvi rfl) ?_
          refine q1g rfl (ggf rfl) (fun h => isp (b := pb p) (o := po p) sl74 (hl.hp (i := v.toNat) (by (have := hvb; simp at h; omega))) (gvt h) (gvt h) (by simp at h; omega) (by (have := hvb; simp at h; omega))) ?_
          refine q1g rfl (ggf rfl) (fun h => fa fa79_0 (gvt h)) ?_
          refine q1g rfl (ggf rfl) (fun h => ldam (vs := encH (C.getD v.toNat rz).hd) Try.isAgg37 Try.sizeOf37 (gvt h) rfl (fun w' hw => mem_part 0 125 (hl.memP (i := v.toNat) (by (have := hvb; simp at h; omega)) hw.below))) ?_
          refine q1g rfl (ggf rfl) (fun h => cl hb30 rfl (mc (gvt h) (mc (gvt h) mn)) (fun w hw => rlater_calls _ _ w)) ?_
          refine q1g rfl (gwt rfl) (fun h => pk_or (gvt h) rfl (gva h)) ?_
          refine q1 (pk_and rfl rfl rfl) ?_
          refine qnil ?_
          refine nthen ?_
          refine cif rfl (fun h6 => ?_) (fun h6 => ?_)
          · have hV2 := hV.yes (by omega) he h6
            refine creg ?_
            refine l1 (mvi rfl) ?_
            refine l1 (asg rfl) ?_
            refine lnil ?_
            refine nblkN ?_
            refine nthen ?_
            refine creg ?_
            refine l1 (mvi rfl) ?_
            first | refine l1 (addn rfl rfl (ri (by omega) (by omega))) ?_ | refine l1 (add rfl rfl) ?_
            refine l1 (asgi rfl) ?_
            refine lnil ?_
            exact nI (i + 1, _, _, _) ⟨(by show i + 1 ≤ n; omega), hA2, hK2, hV2⟩ (by show n - (i + 1) < n - i; omega) ⟨rfl, rfl, rfl, rfl, rfl, rfl, rfl, rfl, trivial⟩ (List.Sublist.cons_cons _ (List.Sublist.cons_cons _ (List.Sublist.cons _ (List.Sublist.refl _))))
          · have hV2 := hV.no (by omega) he h6
            refine cskip ?_
            refine nblkN ?_
            refine nthen ?_
            refine creg ?_
            refine l1 (mvi rfl) ?_
            first | refine l1 (addn rfl rfl (ri (by omega) (by omega))) ?_ | refine l1 (add rfl rfl) ?_
            refine l1 (asgi rfl) ?_
            refine lnil ?_
            exact nI (i + 1, _, _, _) ⟨(by show i + 1 ≤ n; omega), hA2, hK2, hV2⟩ (by show n - (i + 1) < n - i; omega) ⟨rfl, rfl, rfl, rfl, rfl, rfl, rfl, rfl, trivial⟩ (List.Sublist.cons_cons _ (List.Sublist.cons_cons _ (List.Sublist.cons _ (List.Sublist.refl _))))
      · have hA2 := hA.no (by omega) he h3
        refine cskip ?_
        refine nthen ?_
        refine cseq ?_
        refine cseq ?_
        refine cregq mo (by kernel_rfl) ?_
        refine q1 (fa fa79_1 rfl) ?_
        refine q1 (ldc 2 Try.isAgg4 rfl rfl rfl) ?_
        refine q1 (mvb rfl) ?_
        refine q1g rfl (gwt rfl) (fun h => mvi rfl) ?_
        refine q1g rfl (gwt rfl) (fun h => lss (gvt h) rfl) ?_
        refine q1g rfl (gwt rfl) (fun h => mvb (gvt h)) ?_
        refine q1g rfl (ggf rfl) (fun h => fa fa79_0 rfl) ?_
        refine q1g rfl (ggf rfl) (fun h => lda 2 Try.isAgg37 Try.sizeOf37 rfl (gvt h) (encR_hd _) rfl) ?_
        refine q1g rfl (ggf rfl) (fun h => mvs rfl) ?_
        refine q1g rfl (ggf rfl) (fun h => mvi rfl) ?_
        refine q1g rfl (ggf rfl) (fun h => isp (b := pb p) (o := po p) sl74 (hl.hp (i := k.toNat) (by (have := hkb; simp at h; omega))) (gvt h) (gvt h) (by simp at h; omega) (by (have := hkb; simp at h; omega))) ?_
        refine q1g rfl (ggf rfl) (fun h => fa fa79_0 (gvt h)) ?_
        refine q1g rfl (ggf rfl) (fun h => ldam (vs := encH (C.getD k.toNat rz).hd) Try.isAgg37 Try.sizeOf37 (gvt h) rfl (fun w' hw => mem_part 0 125 (hl.memP (i := k.toNat) (by (have := hkb; simp at h; omega)) hw.below))) ?_
        refine q1g rfl (ggf rfl) (fun h => cl hb30 rfl (mc (gvt h) (mc (gvt h) mn)) (fun w hw => rlater_calls _ _ w)) ?_
        refine q1g rfl (gwt rfl) (fun h => pk_or (gvt h) rfl (gva h)) ?_
        refine q1 (pk_and rfl rfl rfl) ?_
        refine qnil ?_
        refine nthen ?_
        refine cif rfl (fun h7 => ?_) (fun h7 => ?_)
        · have hK2 := hK.yes (by omega) he h7
          refine creg ?_
          refine l1 (mvi rfl) ?_
          refine l1 (asg rfl) ?_
          refine lnil ?_
          refine nthen ?_
          refine cseq ?_
          refine cregq mo (by kernel_rfl) ?_
          refine q1 (fa fa79_1 rfl) ?_
          refine q1 (ldc 2 Try.isAgg4 rfl rfl rfl) ?_
          refine q1 (mvb rfl) ?_
          refine q1g rfl (gwt rfl) (fun h => fa fa79_2 rfl) ?_
          refine q1g rfl (gwt rfl) (fun h => fa fa77_0 (gvt h)) ?_
          refine q1g rfl (gwt rfl) (fun h => ldc 2 Try.isAgg3 rfl (gvt h) rfl) ?_
          refine q1g rfl (gwt rfl) (fun h => neq (gvt h) rfl) ?_
          refine q1 (pk_and rfl rfl rfl) ?_
          refine q1 (mvb rfl) ?_
          refine q1g rfl (gwt rfl) (fun h => mvi rfl) ?_
          refine q1g rfl (gwt rfl) (fun h => lss (gvt h) rfl) ?_
          refine q1g rfl (gwt rfl) (fun h => mvb (gvt h)) ?_
          refine q1g rfl (ggf rfl) (fun h => fa fa79_0 rfl) ?_
          refine q1g rfl (ggf rfl) (fun h => lda 2 Try.isAgg37 Try.sizeOf37 rfl (gvt h) (encR_hd _) rfl) ?_
          refine q1g rfl (ggf rfl) (fun h => mvs rfl) ?_
          refine q1g rfl (ggf rfl) (fun h => mvi rfl) ?_
          refine q1g rfl (ggf rfl) (fun h => isp (b := pb p) (o := po p) sl74 (hl.hp (i := v.toNat) (by (have := hvb; simp at h; omega))) (gvt h) (gvt h) (by simp at h; omega) (by (have := hvb; simp at h; omega))) ?_
          refine q1g rfl (ggf rfl) (fun h => fa fa79_0 (gvt h)) ?_
          refine q1g rfl (ggf rfl) (fun h => ldam (vs := encH (C.getD v.toNat rz).hd) Try.isAgg37 Try.sizeOf37 (gvt h) rfl (fun w' hw => mem_part 0 125 (hl.memP (i := v.toNat) (by (have := hvb; simp at h; omega)) hw.below))) ?_
          refine q1g rfl (ggf rfl) (fun h => cl hb30 rfl (mc (gvt h) (mc (gvt h) mn)) (fun w hw => rlater_calls _ _ w)) ?_
          refine q1g rfl (gwt rfl) (fun h => pk_or (gvt h) rfl (gva h)) ?_
          refine q1 (pk_and rfl rfl rfl) ?_
          refine qnil ?_
          refine nthen ?_
          refine cif rfl (fun h8 => ?_) (fun h8 => ?_)
          · have hV2 := hV.yes (by omega) he h8
            refine creg ?_
            refine l1 (mvi rfl) ?_
            refine l1 (asg rfl) ?_
            refine lnil ?_
            refine nblkN ?_
            refine nthen ?_
            refine creg ?_
            refine l1 (mvi rfl) ?_
            first | refine l1 (addn rfl rfl (ri (by omega) (by omega))) ?_ | refine l1 (add rfl rfl) ?_
            refine l1 (asgi rfl) ?_
            refine lnil ?_
            exact nI (i + 1, _, _, _) ⟨(by show i + 1 ≤ n; omega), hA2, hK2, hV2⟩ (by show n - (i + 1) < n - i; omega) ⟨rfl, rfl, rfl, rfl, rfl, rfl, rfl, rfl, trivial⟩ (List.Sublist.cons_cons _ (List.Sublist.cons_cons _ (List.Sublist.cons _ (List.Sublist.refl _))))
          · have hV2 := hV.no (by omega) he h8
            refine cskip ?_
            refine nblkN ?_
            refine nthen ?_
            refine creg ?_
            refine l1 (mvi rfl) ?_
            first | refine l1 (addn rfl rfl (ri (by omega) (by omega))) ?_ | refine l1 (add rfl rfl) ?_
            refine l1 (asgi rfl) ?_
            refine lnil ?_
            exact nI (i + 1, _, _, _) ⟨(by show i + 1 ≤ n; omega), hA2, hK2, hV2⟩ (by show n - (i + 1) < n - i; omega) ⟨rfl, rfl, rfl, rfl, rfl, rfl, rfl, rfl, trivial⟩ (List.Sublist.cons_cons _ (List.Sublist.cons_cons _ (List.Sublist.cons _ (List.Sublist.refl _))))
        · have hK2 := hK.no (by omega) he h7
          refine cskip ?_
          refine nthen ?_
          refine cseq ?_
          refine cregq mo (by kernel_rfl) ?_
          refine q1 (fa fa79_1 rfl) ?_
          refine q1 (ldc 2 Try.isAgg4 rfl rfl rfl) ?_
          refine q1 (mvb rfl) ?_
          refine q1g rfl (gwt rfl) (fun h => fa fa79_2 rfl) ?_
          refine q1g rfl (gwt rfl) (fun h => fa fa77_0 (gvt h)) ?_
          refine q1g rfl (gwt rfl) (fun h => ldc 2 Try.isAgg3 rfl (gvt h) rfl) ?_
          refine q1g rfl (gwt rfl) (fun h => neq (gvt h) rfl) ?_
          refine q1 (pk_and rfl rfl rfl) ?_
          refine q1 (mvb rfl) ?_
          refine q1g rfl (gwt rfl) (fun h => mvi rfl) ?_
          refine q1g rfl (gwt rfl) (fun h => lss (gvt h) rfl) ?_
          refine q1g rfl (gwt rfl) (fun h => mvb (gvt h)) ?_
          refine q1g rfl (ggf rfl) (fun h => fa fa79_0 rfl) ?_
          refine q1g rfl (ggf rfl) (fun h => lda 2 Try.isAgg37 Try.sizeOf37 rfl (gvt h) (encR_hd _) rfl) ?_
          refine q1g rfl (ggf rfl) (fun h => mvs rfl) ?_
          refine q1g rfl (ggf rfl) (fun h => mvi rfl) ?_
          refine q1g rfl (ggf rfl) (fun h => isp (b := pb p) (o := po p) sl74 (hl.hp (i := v.toNat) (by (have := hvb; simp at h; omega))) (gvt h) (gvt h) (by simp at h; omega) (by (have := hvb; simp at h; omega))) ?_
          refine q1g rfl (ggf rfl) (fun h => fa fa79_0 (gvt h)) ?_
          refine q1g rfl (ggf rfl) (fun h => ldam (vs := encH (C.getD v.toNat rz).hd) Try.isAgg37 Try.sizeOf37 (gvt h) rfl (fun w' hw => mem_part 0 125 (hl.memP (i := v.toNat) (by (have := hvb; simp at h; omega)) hw.below))) ?_
          refine q1g rfl (ggf rfl) (fun h => cl hb30 rfl (mc (gvt h) (mc (gvt h) mn)) (fun w hw => rlater_calls _ _ w)) ?_
          refine q1g rfl (gwt rfl) (fun h => pk_or (gvt h) rfl (gva h)) ?_
          refine q1 (pk_and rfl rfl rfl) ?_
          refine qnil ?_
          refine nthen ?_
          refine cif rfl (fun h9 => ?_) (fun h9 => ?_)
          · have hV2 := hV.yes (by omega) he h9
            refine creg ?_
            refine l1 (mvi rfl) ?_
            refine l1 (asg rfl) ?_
            refine lnil ?_
            refine nblkN ?_
            refine nthen ?_
            refine creg ?_
            refine l1 (mvi rfl) ?_
            first | refine l1 (addn rfl rfl (ri (by omega) (by omega))) ?_ | refine l1 (add rfl rfl) ?_
            refine l1 (asgi rfl) ?_
            refine lnil ?_
            exact nI (i + 1, _, _, _) ⟨(by show i + 1 ≤ n; omega), hA2, hK2, hV2⟩ (by show n - (i + 1) < n - i; omega) ⟨rfl, rfl, rfl, rfl, rfl, rfl, rfl, rfl, trivial⟩ (List.Sublist.cons_cons _ (List.Sublist.cons_cons _ (List.Sublist.cons _ (List.Sublist.refl _))))
          · have hV2 := hV.no (by omega) he h9
            refine cskip ?_
            refine nblkN ?_
            refine nthen ?_
            refine creg ?_
            refine l1 (mvi rfl) ?_
            first | refine l1 (addn rfl rfl (ri (by omega) (by omega))) ?_ | refine l1 (add rfl rfl) ?_
            refine l1 (asgi rfl) ?_
            refine lnil ?_
            exact nI (i + 1, _, _, _) ⟨(by show i + 1 ≤ n; omega), hA2, hK2, hV2⟩ (by show n - (i + 1) < n - i; omega) ⟨rfl, rfl, rfl, rfl, rfl, rfl, rfl, rfl, trivial⟩ (List.Sublist.cons_cons _ (List.Sublist.cons_cons _ (List.Sublist.cons _ (List.Sublist.refl _))))
  · have hin : i = C.length := by (have := df h1; omega)
    have eA := hA.end hin
    have eK := hK.end hin
    have eV := hV.end hin
    refine cexit ?_
    refine nthenE ?_
    refine nIE ?_
    refine nblkE ?_
    refine nthen ?_
    refine cseq ?_
    refine cseq ?_
    refine creg ?_
    refine l1 (mvi rfl) ?_
    refine l1 (lss rfl rfl) ?_
    refine lnil ?_
    refine nthen ?_
    refine cif rfl (fun h10 => ?_) (fun h10 => ?_)
    · rw [oI_none (tok := tok) (C := C) (eA.elim (fun h => h.2) (fun ⟨x, h1, _⟩ => absurd (dt h10) (by omega)))]
      refine cseq ?_
      refine creg ?_
      refine l1 (bld0 bk83z2) ?_
      refine lstw 1 rfl rfl rfl Try.sizeOf83 rfl rfl rfl ?_
      refine l1 (asgb rfl) ?_
      refine lnil ?_
      refine nthen ?_
      refine cret ?_
      refine nthenR ?_
      exact fin (rv2 rfl (rvc 1 Try.isAgg83 Try.sizeOf83 rfl rfl rfl rfl) (rvt rfl))
    · obtain ⟨xa, rfl, hxa, hAe⟩ : ∃ x : Nat, a = (x : Int) ∧ x < C.length ∧ latR anyR (ofRows tok C) = (C.getD x rz, true) := eA.elim (fun h => absurd h.1 (by (have := df h10; omega))) id
      obtain ⟨b, o, hp, hbl, hm⟩ := hl.at (i := xa) (by omega)
      rw [oI_some (tok := tok) (C := C) (by rw [hAe])]
      refine cskip ?_
      refine nthen ?_
      refine cseq ?_
      refine cregE1 (Eff.mk 12 11 83 [.int .u8 0, .int .u8 0, .int .u8 0, .int .u8 0, .int .u8 0, .int .u8 0, .int .u8 0, .int .u8 0, .int .u8 0, .int .u8 0, .int .u8 0, .int .u8 0, .int .u8 0, .int .u8 0, .int .u8 0, .int .u8 0, .int .i64 0, .int .u64 0, .int .u8 0, .int .u8 0, .int .u8 0, .int .u8 0, .int .u8 0, .int .u8 0, .int .u8 0, .int .u8 0, .int .u8 0, .int .u8 0, .int .u8 0, .int .u8 0, .int .u8 0, .int .u8 0, .int .u8 0, .int .u8 0, .int .u8 0, .int .u8 0, .int .u8 0, .int .u8 0, .int .u8 0, .int .u8 0, .int .u8 0, .int .u8 0, .int .u8 0, .int .u8 0, .int .u8 0, .int .u8 0, .int .u8 0, .int .u8 0, .int .u8 0, .int .u8 0, .int .i64 0, .bool false, .int .u64 0, .int .u8 0, .int .u8 0, .int .u8 0, .int .u8 0, .int .u8 0, .int .u8 0, .int .u8 0, .int .u8 0, .int .u8 0, .int .u8 0, .int .u8 0, .int .u8 0, .int .u8 0, .int .u8 0, .int .u8 0, .int .u8 0, .slice none 0 0, .int .u64 0, .int .u64 0, .int .u64 0, .int .u64 0, .int .u64 0, .int .u64 0, .int .u8 0, .int .u8 0, .int .u8 0, .int .u8 0, .int .u8 0, .int .u8 0, .int .u8 0, .int .u8 0, .int .u8 0, .int .u8 0, .int .u8 0, .int .u8 0, .int .u8 0, .int .u8 0, .int .u8 0, .int .u8 0, .int .u8 0, .int .u8 0, .int .u8 0, .int .u8 0, .int .u8 0, .int .u8 0, .int .u8 0, .int .u8 0, .int .u8 0, .int .u8 0, .int .u8 0, .int .u8 0, .int .u8 0, .int .u8 0, .int .u8 0, .int .u8 0, .int .i64 0, .int .u8 0, .int .u8 0, .int .u8 0, .int .u8 0, .int .u8 0, .int .u8 0, .int .u8 0, .int .u8 0, .int .u8 0, .int .u8 0, .int .u8 0, .int .u8 0, .int .u8 0, .int .u8 0, .int .u8 0, .int .u8 0, .int .u8 0, .int .u8 0, .int .u8 0, .int .u8 0, .int .u8 0, .int .u8 0, .int .u8 0, .int .u8 0, .int .u8 0, .int .u8 0, .int .u8 0, .int .u8 0, .int .u8 0, .int .u8 0, .int .u8 0, .int .u8 0, .bool false, .bool false, .string ByteArray.empty, .slice none 0 0, .string ByteArray.empty] 13 (.tmp 94) (encI ⟨tok, (C.getD xa rz).hd, (C.getD xa rz).known, false, ByteArray.empty, none, 0, 0, fun _ => ByteArray.empty, ByteArray.empty⟩)) mo (by kernel_rfl) (by kernel_rfl) ⟨⟨_, _, _, rfl⟩, ⟨_, _, _, rfl, af_any (by kernel_rfl)⟩, ⟨_, Try.zeroValue83, rfl⟩, Try.sizeOf83, rfl, oneA rfl⟩ (by kernel_rfl) (by kernel_rfl) (by kernel_rfl) (by kernel_rfl) rfl ?_
      refine t1 rfl (fun T => ldw 0 Try.isAgg34 Try.sizeOf34 rfl rfl rfl) ?_
      refine t1 rfl (fun T => mvs rfl) ?_
      refine t1 rfl (fun T => mvi rfl) ?_
      refine t1 rfl (fun T => isp sl74 hp rfl rfl (by omega) (by omega)) ?_
      refine t1 rfl (fun T => fa fa79_0 rfl) ?_
      refine t1 rfl (fun T => ldam (vs := encH (C.getD xa rz).hd) Try.isAgg37 Try.sizeOf37 rfl rfl (fun w' hw => mem_part 0 125 ((hm xa (by omega)).kept hw.below hbl))) ?_
      refine t1 rfl (fun T => mvs rfl) ?_
      refine t1 rfl (fun T => mvi rfl) ?_
      refine t1 rfl (fun T => isp sl74 hp rfl rfl (by omega) (by omega)) ?_
      refine t1 rfl (fun T => fa fa79_1 rfl) ?_
      refine t1 rfl (fun T => ldm (v := .bool (C.getD xa rz).known) Try.isAgg4 rfl (fun w' hw => ((hm xa (by omega)).kept hw.below hbl).at (i := 125) rfl)) ?_
      refine t1 rfl (fun T => bldk (zs := encI ⟨tok, (C.getD xa rz).hd, (C.getD xa rz).known, false, ByteArray.empty, none, 0, 0, fun _ => ByteArray.empty, ByteArray.empty⟩) rfl (bk83b _ _ _)) ?_
      refine te 0 rfl rfl ?_
      refine ts 0 rfl rfl rfl ?_
      refine tnil ?_
      intro b4
      refine nthen ?_
      refine cseq ?_
      refine cseq ?_
      refine creg ?_
      refine l1 (mvi rfl) ?_
      refine l1 (geq rfl rfl) ?_
      refine lnil ?_
      refine nthen ?_
      refine cif rfl (fun h11 => ?_) (fun h11 => ?_)
      · obtain ⟨xk, rfl, hxk, hKe⟩ : ∃ x : Nat, k = (x : Int) ∧ x < C.length ∧ latR knownR (ofRows tok C) = (C.getD x rz, true) := eK.elim (fun h => absurd h.1 (by (have := dt h11; omega))) id
        refine creg ?_
        refine l1 (mvs rfl) ?_
        refine l1 (mvi rfl) ?_
        refine l1 (isp sl74 hp rfl rfl (by omega) (by omega)) ?_
        refine l1 (fa fa79_2 rfl) ?_
        refine l1 (fa fa77_1 rfl) ?_
        refine l1 (ldm (v := .string (C.getD xk rz).ch.name) Try.isAgg9 rfl (fun w' hw => ((hm xk (by omega)).kept hw.below hbl).at (i := 127) rfl)) ?_
        refine l1 (fa fa83_4 rfl) ?_
        refine lstt 2 rfl rfl rfl Try.sizeOf9 (lb rfl) rfl ?_
        refine lnil ?_
        refine nthen ?_
        refine cseq ?_
        refine cseq ?_
        refine creg ?_
        refine l1 (mvi rfl) ?_
        refine l1 (geq rfl rfl) ?_
        refine l1 (mvb rfl) ?_
        refine l1g rfl (gwt rfl) (fun h => mvs rfl) ?_
        refine l1g rfl (gwt rfl) (fun h => mvi rfl) ?_
        refine l1g rfl (gwt rfl) (fun h => isp sl74 hp (gvt h) (gvt h) (by simp at h; omega) (by (have := hV.lt (by omega); simp at h; omega))) ?_
        refine l1g rfl (gwt rfl) (fun h => fa fa79_2 (gvt h)) ?_
        refine l1g rfl (gwt rfl) (fun h => fa fa77_0 (gvt h)) ?_
        refine l1g rfl (gwt rfl) (fun h => ldm (v := .int .i64 (C.getD v.toNat rz).ch.op) Try.isAgg3 (gvt h) (fun w' hw => ((hm v.toNat (by (have := hV.lt (by omega); simp at h; omega))).kept hw.below hbl).at (i := 126) rfl)) ?_
        refine l1g rfl (gwt rfl) (fun h => eql (gvt h) rfl) ?_
        refine l1 (pk_and rfl rfl rfl) ?_
        refine lnil ?_
        refine nthen ?_
        refine cif rfl (fun h12 => ?_) (fun h12 => ?_)
        · have hvp : 0 ≤ v ∧ (C.getD v.toNat rz).ch.op = 1 := by (simpa using h12)
          obtain ⟨xv, rfl, hxv, hVe⟩ : ∃ x : Nat, v = (x : Int) ∧ x < C.length ∧ latR valuedR (ofRows tok C) = (C.getD x rz, true) := eV.elim (fun h => absurd h.1 (by (have := hvp.1; omega))) id
          rw [made_alive hAe hKe hVe hvp.2]
          refine cseq ?_
          refine creg ?_
          refine l1 (fa fa83_3 rfl) ?_
          refine lstb 2 rfl rfl rfl Try.sizeOf4 (lb rfl) rfl ?_
          refine lnil ?_
          refine nthen ?_
          refine cseq ?_
          refine creg ?_
          refine l1 (mvs rfl) ?_
          refine l1 (mvi rfl) ?_
          refine l1 (isp sl74 hp rfl rfl (by omega) (by omega)) ?_
          refine l1 (fa fa79_2 rfl) ?_
          refine l1 (fa fa77_3 rfl) ?_
          refine l1 (ldm (v := .string (C.getD xv rz).ch.value) Try.isAgg9 rfl (fun w' hw => ((hm xv (by omega)).kept hw.below hbl).at (i := 129) rfl)) ?_
          refine l1 (fa fa83_6 rfl) ?_
          refine lstt 2 rfl rfl rfl Try.sizeOf9 (lb rfl) rfl ?_
          refine lnil ?_
          refine nthen ?_
          refine creg ?_
          refine l1 (mvs rfl) ?_
          refine l1 (mvi rfl) ?_
          refine l1 (isp sl74 hp rfl rfl (by omega) (by omega)) ?_
          refine l1 (fa fa79_2 rfl) ?_
          refine l1 (fa fa77_2 rfl) ?_
          refine l1 (ldm (v := .slice (C.getD xk rz).ch.gp (C.getD xk rz).ch.gn (C.getD xk rz).ch.gc) Try.isAgg75 rfl (fun w' hw => ((hm xk (by omega)).kept hw.below hbl).at (i := 128) rfl)) ?_
          refine l1 (fa fa83_5 rfl) ?_
          refine lsts 2 rfl rfl rfl Try.sizeOf75 (lb rfl) rfl ?_
          refine lnil ?_
          refine nthen ?_
          refine cseq ?_
          refine creg ?_
          refine l1 (ldw 2 Try.isAgg83 Try.sizeOf83 rfl rfl rfl) ?_
          refine lstw 1 rfl rfl rfl Try.sizeOf83 rfl rfl rfl ?_
          refine l1 (asgb rfl) ?_
          refine lnil ?_
          refine nthen ?_
          refine cret ?_
          exact fin (rv2 rfl (rvc 1 Try.isAgg83 Try.sizeOf83 rfl rfl rfl rfl) (rvt rfl))
        · have hdd : ((latR valuedR (ofRows tok C)).2 && decide ((latR valuedR (ofRows tok C)).1.ch.op = 1)) = false := eV.elim (fun h => by rw [h.2]; rfl) (fun ⟨x, h1, _, h3⟩ => by (rw [h3]; subst h1; have := h12; simpa using this))
          rw [made_dead hAe hdd, hKe]
          refine cskip ?_
          refine nthen ?_
          refine cseq ?_
          refine creg ?_
          refine l1 (ldw 2 Try.isAgg83 Try.sizeOf83 rfl rfl rfl) ?_
          refine lstw 1 rfl rfl rfl Try.sizeOf83 rfl rfl rfl ?_
          refine l1 (asgb rfl) ?_
          refine lnil ?_
          refine nthen ?_
          refine cret ?_
          exact fin (rv2 rfl (rvc 1 Try.isAgg83 Try.sizeOf83 rfl rfl rfl rfl) (rvt rfl))
      · have hKn : (latR knownR (ofRows tok C)).2 = false := eK.elim (fun h => h.2) (fun ⟨x, h1, _⟩ => absurd (df h11) (by omega))
        have hVn := val_known hKn
        have hv0 : v < 0 := eV.elim (fun h => h.1) (fun ⟨x, _, _, h3⟩ => by rw [h3] at hVn; cases hVn)
        refine cskip ?_
        refine nthen ?_
        refine cseq ?_
        refine cseq ?_
        refine creg ?_
        refine l1 (mvi rfl) ?_
        refine l1 (geq rfl rfl) ?_
        refine l1 (mvb rfl) ?_
        refine l1g rfl (gwt rfl) (fun h => mvs rfl) ?_
        refine l1g rfl (gwt rfl) (fun h => mvi rfl) ?_
        refine l1g rfl (gwt rfl) (fun h => isp sl74 hp (gvt h) (gvt h) (by simp at h; omega) (by (have := hV.lt (by omega); simp at h; omega))) ?_
        refine l1g rfl (gwt rfl) (fun h => fa fa79_2 (gvt h)) ?_
        refine l1g rfl (gwt rfl) (fun h => fa fa77_0 (gvt h)) ?_
        refine l1g rfl (gwt rfl) (fun h => ldm (v := .int .i64 (C.getD v.toNat rz).ch.op) Try.isAgg3 (gvt h) (fun w' hw => ((hm v.toNat (by (have := hV.lt (by omega); simp at h; omega))).kept hw.below hbl).at (i := 126) rfl)) ?_
        refine l1g rfl (gwt rfl) (fun h => eql (gvt h) rfl) ?_
        refine l1 (pk_and rfl rfl rfl) ?_
        refine lnil ?_
        refine nthen ?_
        refine ciff (bf rfl (by rw [decide_eq_false (by omega)]; rfl)) ?_
        refine cskip ?_
        refine nthen ?_
        refine cseq ?_
        refine creg ?_
        refine l1 (ldw 2 Try.isAgg83 Try.sizeOf83 rfl rfl rfl) ?_
        refine lstw 1 rfl rfl rfl Try.sizeOf83 rfl rfl rfl ?_
        refine l1 (asgb rfl) ?_
        refine lnil ?_
        refine nthen ?_
        refine cret ?_
        rw [made_dead hAe (by rw [hVn]; rfl), lat_rz hKn]; exact fin (rv2 rfl (rvc 1 Try.isAgg83 Try.sizeOf83 rfl rfl rfl rfl) (rvt rfl))
end Go.Proofs.Ytkdbjhlkahkobaa
/- walks, printed by a program of ours -/
namespace Go.Proofs.Ytkdbjhlkahkobaa
open Jal Go.RowKit
set_option maxRecDepth 100000
theorem bk77c (i : It) : ∀ w, (Instr.build 77 #[(1, .string i.name), (2, .slice i.gp i.gn i.gc), (3, .string i.value)]).run Try.prog w = .ok (.agg (encCh (chI i)).toArray) w := fun w => by kernel_rfl

set_option maxHeartbeats 2000000 in
theorem rsameI_calls (a b : It) (w : World) (ha : ItSat w a) (hb : ItSat w b) (ka : HdOk a.hd) (kb : HdOk b.hd) (hn : (a.gn : Int) ≤ 9223372036854775807) : Calls Try.prog 53 #[.agg (encI a).toArray, .agg (encI b).toArray] w (Ret (.bool (rsameI a b)) w) := by
  refine fn_calls (n := 56) Try.func53 rfl rfl (lb rfl) ?_
  refine cseq ?_
  refine creg ?_
  refine lbxa rfl (fun b1 => ?_)
  refine lbxa rfl (fun b2 => ?_)
  refine l1 (asg rfl) ?_
  refine lnil ?_
  refine nthen ?_
  refine cseq ?_
  refine creg ?_
  refine l1 (fa fa83_4 rfl) ?_
  refine l1 (ldc 0 Try.isAgg9 rfl rfl rfl) ?_
  refine l1 (fa fa83_5 rfl) ?_
  refine l1 (ldc 0 Try.isAgg75 rfl rfl rfl) ?_
  refine l1 (fa fa83_6 rfl) ?_
  refine l1 (ldc 0 Try.isAgg9 rfl rfl rfl) ?_
  refine l1 (bldk (zs := encCh (chI a)) rfl (bk77c a)) ?_
  refine lal (zs := encCh chz) Try.zeroValue77 rfl (fun b3 => ?_)
  refine lstw 2 rfl rfl rfl Try.sizeOf77 rfl rfl rfl ?_
  refine lnil ?_
  refine nthen ?_
  refine cseq ?_
  refine creg ?_
  refine l1 (fa fa83_4 rfl) ?_
  refine l1 (ldc 1 Try.isAgg9 rfl rfl rfl) ?_
  refine l1 (fa fa83_5 rfl) ?_
  refine l1 (ldc 1 Try.isAgg75 rfl rfl rfl) ?_
  refine l1 (fa fa83_6 rfl) ?_
  refine l1 (ldc 1 Try.isAgg9 rfl rfl rfl) ?_
  refine l1 (bldk (zs := encCh (chI b)) rfl (bk77c b)) ?_
  refine lal (zs := encCh chz) Try.zeroValue77 rfl (fun b4 => ?_)
  refine lstw 3 rfl rfl rfl Try.sizeOf77 rfl rfl rfl ?_
  refine lnil ?_
  refine nthen ?_
  refine cseq ?_
  refine cregH (fun x : List Ent => ⟨b1, encI a, 83⟩ :: ⟨b2, encI b, 83⟩ :: ⟨b3, encCh (chI a), 77⟩ :: ⟨b4, encCh (chI b), 77⟩ :: x) 36 mo rfl ?_
  refine hq1 0 rfl (by kernel_rfl) (by kernel_rfl) (by kernel_rfl) (fun c a w h => h) (.inl ⟨_, rfl⟩) (fun w hw => ⟨_, hw⟩) (fun T => fa fa83_0 rfl) ?_
  refine hq1 1 rfl (by kernel_rfl) (by kernel_rfl) (by kernel_rfl) (fun c a w h => h) (.inl ⟨_, rfl⟩) (fun w hw => ⟨_, hw⟩) (fun T => lda 0 Try.isAgg34 Try.sizeOf34 rfl rfl (encI_tok _) rfl) ?_
  refine hq1 2 rfl (by kernel_rfl) (by kernel_rfl) (by kernel_rfl) (fun c a w h => h) (.inl ⟨_, rfl⟩) (fun w hw => ⟨_, hw⟩) (fun T => fa fa83_0 rfl) ?_
  refine hq1 3 rfl (by kernel_rfl) (by kernel_rfl) (by kernel_rfl) (fun c a w h => h) (.inl ⟨_, rfl⟩) (fun w hw => ⟨_, hw⟩) (fun T => lda 1 Try.isAgg34 Try.sizeOf34 rfl rfl (encI_tok _) rfl) ?_
  refine hq1 4 rfl (by kernel_rfl) (by kernel_rfl) (by kernel_rfl) (fun c a w h => h) (.inl ⟨_, rfl⟩) (fun w hw => ⟨_, hw⟩) (fun T => eqla rfl rfl (fun w => eql34 _ _ w)) ?_
  refine hq1 5 rfl (by kernel_rfl) (by kernel_rfl) (by kernel_rfl) (fun c a w h => h) (.inr ⟨_, rfl⟩) (fun w hw => ⟨_, hw⟩) (fun T => mvb rfl) ?_
  refine hq1g 6 rfl rfl (gwt rfl) (by kernel_rfl) (by kernel_rfl) (by kernel_rfl) (fun c a w h => h) (.inl ⟨_, rfl⟩) (fun w hw => ⟨_, hw⟩) (fun h T => fa fa83_2 rfl) ?_
  refine hq1g 7 rfl rfl (gwt rfl) (by kernel_rfl) (by kernel_rfl) (by kernel_rfl) (fun c a w h => h) (.inl ⟨_, rfl⟩) (fun w hw => ⟨_, hw⟩) (fun h T => ldc 0 Try.isAgg4 rfl (gvt h) rfl) ?_
  refine hq1g 8 rfl rfl (gwt rfl) (by kernel_rfl) (by kernel_rfl) (by kernel_rfl) (fun c a w h => h) (.inl ⟨_, rfl⟩) (fun w hw => ⟨_, hw⟩) (fun h T => fa fa83_2 rfl) ?_
  refine hq1g 9 rfl rfl (gwt rfl) (by kernel_rfl) (by kernel_rfl) (by kernel_rfl) (fun c a w h => h) (.inl ⟨_, rfl⟩) (fun w hw => ⟨_, hw⟩) (fun h T => ldc 1 Try.isAgg4 rfl (gvt h) rfl) ?_
  refine hq1g 10 rfl rfl (gwt rfl) (by kernel_rfl) (by kernel_rfl) (by kernel_rfl) (fun c a w h => h) (.inl ⟨_, rfl⟩) (fun w hw => ⟨_, hw⟩) (fun h T => eqlb Try.underlying4 (gvt h) (gvt h)) ?_
  refine hq1k 11 rfl (by kernel_rfl) (by kernel_rfl) (by kernel_rfl) (fun c a w h => h) ⟨_, _, _, rfl⟩ (fun w hw => ⟨_, hw⟩) (fun T => pk_and rfl rfl rfl) ?_
  refine hq1 12 rfl (by kernel_rfl) (by kernel_rfl) (by kernel_rfl) (fun c a w h => h) (.inr ⟨_, rfl⟩) (fun w hw => ⟨_, hw⟩) (fun T => mvb rfl) ?_
  refine hq1g 13 rfl rfl (gwt rfl) (by kernel_rfl) (by kernel_rfl) (by kernel_rfl) (fun c a w h => h) (.inl ⟨_, rfl⟩) (fun w hw => ⟨_, hw⟩) (fun h T => fa fa83_3 rfl) ?_
  refine hq1g 14 rfl rfl (gwt rfl) (by kernel_rfl) (by kernel_rfl) (by kernel_rfl) (fun c a w h => h) (.inl ⟨_, rfl⟩) (fun w hw => ⟨_, hw⟩) (fun h T => ldc 0 Try.isAgg4 rfl (gvt h) rfl) ?_
  refine hq1g 15 rfl rfl (gwt rfl) (by kernel_rfl) (by kernel_rfl) (by kernel_rfl) (fun c a w h => h) (.inl ⟨_, rfl⟩) (fun w hw => ⟨_, hw⟩) (fun h T => fa fa83_3 rfl) ?_
  refine hq1g 16 rfl rfl (gwt rfl) (by kernel_rfl) (by kernel_rfl) (by kernel_rfl) (fun c a w h => h) (.inl ⟨_, rfl⟩) (fun w hw => ⟨_, hw⟩) (fun h T => ldc 1 Try.isAgg4 rfl (gvt h) rfl) ?_
  refine hq1g 17 rfl rfl (gwt rfl) (by kernel_rfl) (by kernel_rfl) (by kernel_rfl) (fun c a w h => h) (.inl ⟨_, rfl⟩) (fun w hw => ⟨_, hw⟩) (fun h T => eqlb Try.underlying4 (gvt h) (gvt h)) ?_
  refine hq1k 18 rfl (by kernel_rfl) (by kernel_rfl) (by kernel_rfl) (fun c a w h => h) ⟨_, _, _, rfl⟩ (fun w hw => ⟨_, hw⟩) (fun T => pk_and rfl rfl rfl) ?_
  refine hq1 19 rfl (by kernel_rfl) (by kernel_rfl) (by kernel_rfl) (fun c a w h => h) (.inr ⟨_, rfl⟩) (fun w hw => ⟨_, hw⟩) (fun T => mvb rfl) ?_
  refine hq1g 20 rfl rfl (gwt rfl) (by kernel_rfl) (by kernel_rfl) (by kernel_rfl) (fun c a w h => h) (.inl ⟨_, rfl⟩) (fun w hw => ⟨_, hw⟩) (fun h T => ldw 2 Try.isAgg77 Try.sizeOf77 rfl rfl rfl) ?_
  refine hq1g 21 rfl rfl (gwt rfl) (by kernel_rfl) (by kernel_rfl) (by kernel_rfl) (fun c a w h => h) (.inl ⟨_, rfl⟩) (fun w hw => ⟨_, hw⟩) (fun h T => ldw 3 Try.isAgg77 Try.sizeOf77 rfl rfl rfl) ?_
  refine he 22 (by kernel_rfl) rfl ?_
  refine l1g rfl (gwt rfl) (fun h => cl hb85 rfl (mc (gvt h) (mc (gvt h) mn)) (fun w hw => sameCh_calls (chI a) (chI b) w (Sl.keptS ha.g hw) (Sl.keptS hb.g hw) hn)) ?_
  refine hnil (fun w hw => ⟨_, hw⟩) ?_
  refine hq1k 23 rfl (by kernel_rfl) (by kernel_rfl) (by kernel_rfl) (fun c a w h => h) ⟨_, _, _, rfl⟩ (fun w hw => ⟨_, hw⟩) (fun T => pk_and rfl rfl rfl) ?_
  refine hq1 24 rfl (by kernel_rfl) (by kernel_rfl) (by kernel_rfl) (fun c a w h => h) (.inr ⟨_, rfl⟩) (fun w hw => ⟨_, hw⟩) (fun T => mvb rfl) ?_
  refine hq1g 25 rfl rfl (gwt rfl) (by kernel_rfl) (by kernel_rfl) (by kernel_rfl) (fun c a w h => h) (.inl ⟨_, rfl⟩) (fun w hw => ⟨_, hw⟩) (fun h T => fa fa83_1 rfl) ?_
  refine hq1g 26 rfl rfl (gwt rfl) (by kernel_rfl) (by kernel_rfl) (by kernel_rfl) (fun c a w h => h) (.inl ⟨_, rfl⟩) (fun w hw => ⟨_, hw⟩) (fun h T => lda 0 Try.isAgg37 Try.sizeOf37 rfl (gvt h) (encI_hd _) rfl) ?_
  refine hq1g 29 rfl rfl (gwt rfl) (by kernel_rfl) (by kernel_rfl) (by kernel_rfl) (fun c a w h => h) (.inl ⟨_, rfl⟩) (fun w hw => ⟨_, hw⟩) (fun h T => fa fa83_1 rfl) ?_
  refine hq1g 30 rfl rfl (gwt rfl) (by kernel_rfl) (by kernel_rfl) (by kernel_rfl) (fun c a w h => h) (.inl ⟨_, rfl⟩) (fun w hw => ⟨_, hw⟩) (fun h T => lda 1 Try.isAgg37 Try.sizeOf37 rfl (gvt h) (encI_hd _) rfl) ?_
  refine he 27 (by kernel_rfl) rfl ?_
  refine lclmg rfl (gwt rfl) hb88 rfl (fun h => (mc (gvt h) mn)) (fun h w' hw => hdby_calls a.hd w' (Sl.keptS ha.h hw) ka) ?_
  rintro v48 H48 k48
  refine hnil (fun w hw => ⟨_, hw⟩) ?_
  refine hem2 28 31 (by kernel_rfl) rfl rfl ?_ ?_
  · skip
    refine l1g rfl (gwt rfl) (fun h => cvbs (l := hdBy a.hd) (gvt h) (k48 h) (by first | exact (List.Sublist.cons _ (List.Sublist.cons _ (List.Sublist.cons _ (List.Sublist.cons _ (List.Sublist.refl _))))) | exact (List.Sublist.cons _ (List.Sublist.cons _ (List.Sublist.cons _ (List.Sublist.cons _ (List.sublist_append_left _ _))))) | exact (List.Sublist.cons _ (List.Sublist.cons _ (List.Sublist.cons _ (List.Sublist.cons _ (List.sublist_append_right _ _))))))) ?_
    refine hnil (fun w hw => ⟨_, hw⟩) ?_
    refine he 31 (by kernel_rfl) rfl ?_
    refine lclmg rfl (gwt rfl) hb88 rfl (fun h => (mc (gvt h) mn)) (fun h w' hw => hdby_calls b.hd w' (Sl.keptS hb.h hw) kb) ?_
    rintro v52 H52 k52
    refine hnil (fun w hw => ⟨_, hw⟩) ?_
    refine he 32 (by kernel_rfl) rfl ?_
    refine l1g rfl (gwt rfl) (fun h => cvbs (l := hdBy b.hd) (gvt h) (k52 h) (by first | exact (List.Sublist.cons _ (List.Sublist.cons _ (List.Sublist.cons _ (List.Sublist.cons _ (List.Sublist.refl _))))) | exact (List.Sublist.cons _ (List.Sublist.cons _ (List.Sublist.cons _ (List.Sublist.cons _ (List.sublist_append_left _ _))))) | exact (List.Sublist.cons _ (List.Sublist.cons _ (List.Sublist.cons _ (List.Sublist.cons _ (List.sublist_append_right _ _))))))) ?_
    refine hnil (fun w hw => ⟨_, hw⟩) ?_
    refine hq1g 33 rfl rfl (gwt rfl) (by kernel_rfl) (by kernel_rfl) (by kernel_rfl) (fun c a w h => h) (.inl ⟨_, rfl⟩) (fun w hw => ⟨_, hw⟩) (fun h T => eqls (gvt h) (gvt h)) ?_
    refine hq1k 34 rfl (by kernel_rfl) (by kernel_rfl) (by kernel_rfl) (fun c a w h => h) ⟨_, _, _, rfl⟩ (fun w hw => ⟨_, hw⟩) (fun T => pk_and rfl rfl rfl) ?_
    refine hq1 35 rfl (by kernel_rfl) (by kernel_rfl) (by kernel_rfl) (fun c a w h => h) (.inr ⟨_, rfl⟩) (fun w hw => ⟨_, hw⟩) (fun T => asg rfl) ?_
    refine hend (by kernel_rfl) ?_
    refine nthen ?_
    refine cret ?_
    exact fin1b rfl rfl rfl
  · skip
    refine lclmg rfl (gwt rfl) hb88 rfl (fun h => (mc (gvt h) mn)) (fun h w' hw => hdby_calls b.hd w' (Sl.keptS hb.h hw) kb) ?_
    rintro v52 H52 k52
    refine hnil (fun w hw => ⟨_, hw⟩) ?_
    refine hem2 28 32 (by kernel_rfl) rfl rfl ?_ ?_
    · skip
      refine l1g rfl (gwt rfl) (fun h => cvbs (l := hdBy a.hd) (gvt h) (k48 h) (by first | exact (List.Sublist.cons _ (List.Sublist.cons _ (List.Sublist.cons _ (List.Sublist.cons _ (List.Sublist.refl _))))) | exact (List.Sublist.cons _ (List.Sublist.cons _ (List.Sublist.cons _ (List.Sublist.cons _ (List.sublist_append_left _ _))))) | exact (List.Sublist.cons _ (List.Sublist.cons _ (List.Sublist.cons _ (List.Sublist.cons _ (List.sublist_append_right _ _))))))) ?_
      refine hnil (fun w hw => ⟨_, hw⟩) ?_
      refine he 32 (by kernel_rfl) rfl ?_
      refine l1g rfl (gwt rfl) (fun h => cvbs (l := hdBy b.hd) (gvt h) (k52 h) (by first | exact (List.Sublist.cons _ (List.Sublist.cons _ (List.Sublist.cons _ (List.Sublist.cons _ (List.Sublist.refl _))))) | exact (List.Sublist.cons _ (List.Sublist.cons _ (List.Sublist.cons _ (List.Sublist.cons _ (List.sublist_append_left _ _))))) | exact (List.Sublist.cons _ (List.Sublist.cons _ (List.Sublist.cons _ (List.Sublist.cons _ (List.sublist_append_right _ _))))))) ?_
      refine hnil (fun w hw => ⟨_, hw⟩) ?_
      refine hq1g 33 rfl rfl (gwt rfl) (by kernel_rfl) (by kernel_rfl) (by kernel_rfl) (fun c a w h => h) (.inl ⟨_, rfl⟩) (fun w hw => ⟨_, hw⟩) (fun h T => eqls (gvt h) (gvt h)) ?_
      refine hq1k 34 rfl (by kernel_rfl) (by kernel_rfl) (by kernel_rfl) (fun c a w h => h) ⟨_, _, _, rfl⟩ (fun w hw => ⟨_, hw⟩) (fun T => pk_and rfl rfl rfl) ?_
      refine hq1 35 rfl (by kernel_rfl) (by kernel_rfl) (by kernel_rfl) (fun c a w h => h) (.inr ⟨_, rfl⟩) (fun w hw => ⟨_, hw⟩) (fun T => asg rfl) ?_
      refine hend (by kernel_rfl) ?_
      refine nthen ?_
      refine cret ?_
      exact fin1b rfl rfl rfl
    · skip
      refine l1g rfl (gwt rfl) (fun h => cvbs (l := hdBy b.hd) (gvt h) (k52 h) (by first | exact (List.Sublist.cons _ (List.Sublist.cons _ (List.Sublist.cons _ (List.Sublist.cons _ (List.Sublist.refl _))))) | exact (List.Sublist.cons _ (List.Sublist.cons _ (List.Sublist.cons _ (List.Sublist.cons _ (List.sublist_append_left _ _))))) | exact (List.Sublist.cons _ (List.Sublist.cons _ (List.Sublist.cons _ (List.Sublist.cons _ (List.sublist_append_right _ _))))))) ?_
      refine hnil (fun w hw => ⟨_, hw⟩) ?_
      refine he 28 (by kernel_rfl) rfl ?_
      refine l1g rfl (gwt rfl) (fun h => cvbs (l := hdBy a.hd) (gvt h) (k48 h) (by first | exact (List.Sublist.cons _ (List.Sublist.cons _ (List.Sublist.cons _ (List.Sublist.cons _ (List.Sublist.refl _))))) | exact (List.Sublist.cons _ (List.Sublist.cons _ (List.Sublist.cons _ (List.Sublist.cons _ (List.sublist_append_left _ _))))) | exact (List.Sublist.cons _ (List.Sublist.cons _ (List.Sublist.cons _ (List.Sublist.cons _ (List.sublist_append_right _ _))))))) ?_
      refine hnil (fun w hw => ⟨_, hw⟩) ?_
      refine hq1g 33 rfl rfl (gwt rfl) (by kernel_rfl) (by kernel_rfl) (by kernel_rfl) (fun c a w h => h) (.inl ⟨_, rfl⟩) (fun w hw => ⟨_, hw⟩) (fun h T => eqls (gvt h) (gvt h)) ?_
      refine hq1k 34 rfl (by kernel_rfl) (by kernel_rfl) (by kernel_rfl) (fun c a w h => h) ⟨_, _, _, rfl⟩ (fun w hw => ⟨_, hw⟩) (fun T => pk_and rfl rfl rfl) ?_
      refine hq1 35 rfl (by kernel_rfl) (by kernel_rfl) (by kernel_rfl) (fun c a w h => h) (.inr ⟨_, rfl⟩) (fun w hw => ⟨_, hw⟩) (fun T => asg rfl) ?_
      refine hend (by kernel_rfl) ?_
      refine nthen ?_
      refine cret ?_
      exact fin1b rfl rfl rfl
end Go.Proofs.Ytkdbjhlkahkobaa
/- walks, printed by a program of ours -/
namespace Go.Proofs.Ytkdbjhlkahkobaa
open Jal Go.RowKit
set_option maxRecDepth 100000
theorem lat_in2 {q : Rw → Bool} {L : List Rw} {Pr : Rw → Prop} (h0 : Pr rz) (h : ∀ r ∈ L, Pr r) : Pr (latR q L).1 := by
  rw [← getL_rows L]
  exact lat_all h0 (fun i hi => h _ (by rw [List.getD_eq_getElem?_getD, List.getElem?_eq_getElem hi]; exact List.getElem_mem hi))
theorem made_in {w : World} {tok : Nat → Int} {L : List Rw} (h : ∀ r ∈ L, RwIn w r) : ItSat w (madeI tok L) := by
  have h1 : HdIn w (latR anyR L).1.hd := lat_in2 (Pr := fun r => HdIn w r.hd) ⟨.inl rfl⟩ (fun r hr => (h r hr).h)
  have h2 : ChIn w (latR knownR L).1.ch := lat_in2 (Pr := fun r => ChIn w r.ch) ⟨.inl rfl⟩ (fun r hr => (h r hr).c)
  unfold madeI
  cases (latR valuedR L).2 && decide ((latR valuedR L).1.ch.op = 1) with
  | true => exact ⟨h1, h2⟩
  | false => exact ⟨h1, ⟨.inl rfl⟩⟩
theorem made_gn {tok : Nat → Int} {L : List Rw} {k : Nat} (h : ∀ r ∈ L, r.ch.gn ≤ k) : (madeI tok L).gn ≤ k := by
  have h2 : (latR knownR L).1.ch.gn ≤ k := lat_in2 (Pr := fun r => r.ch.gn ≤ k) (Nat.zero_le _) h
  unfold madeI
  cases (latR valuedR L).2 && decide ((latR valuedR L).1.ch.op = 1) with
  | true => exact h2
  | false => exact Nat.zero_le _
theorem ofRows_mem {tok : Nat → Int} {l : Nat → Rw} {n : Nat} {r : Rw} (h : r ∈ ofRows tok (counted l n)) : ∃ j, j < n ∧ r = l j := by
  obtain ⟨j, h1, h2, _⟩ := cnt_mem l n _ (List.mem_filter.1 h).1
  exact ⟨j, h1, h2⟩
theorem of_in {w : World} {tok : Nat → Int} {l : Nat → Rw} {n : Nat} (h : ∀ i, i < n → RwIn w (l i)) : ItSat w (ofI tok l n).1 := by
  unfold ofI
  cases decide (((ofRows tok (counted l n)).length : Int) = 0) with
  | true => exact ⟨⟨.inl rfl⟩, ⟨.inl rfl⟩⟩
  | false => exact made_in (fun r hr => by obtain ⟨j, h1, rfl⟩ := ofRows_mem hr; exact h j h1)
theorem of_gn {tok : Nat → Int} {l : Nat → Rw} {n k : Nat} (h : ∀ i, i < n → (l i).ch.gn ≤ k) : (ofI tok l n).1.gn ≤ k := by
  unfold ofI
  cases decide (((ofRows tok (counted l n)).length : Int) = 0) with
  | true => exact Nat.zero_le _
  | false => exact made_gn (fun r hr => by obtain ⟨j, h1, rfl⟩ := ofRows_mem hr; exact h j h1)
theorem coreI_gn {a b : It} (h : coreI a = coreI b) : a.gn = b.gn := show (coreI a).gn = (coreI b).gn by rw [h]
theorem coreI_tok {a b : It} (h : coreI a = coreI b) : a.tok = b.tok := show (coreI a).tok = (coreI b).tok by rw [h]
theorem of_guard {tok : Nat → Int} {l : Nat → Rw} {n : Nat} {I : It} (h : coreI I = coreI (ofI tok l n).1) :
    (((!((ofI tok l n).2 == (ofI tok l n).2)) || ((ofI tok l n).2 && !rsameI I (ofI tok l n).1)) || ((!(ofI tok l n).2) && (((I.known || I.alive) || !(I.name.toList == (ByteArray.mk #[]).toList)) || decide ((I.gn : Int) > 0)))) = false := by
  rw [rsame_core h]
  cases hx : (ofI tok l n).2 with
  | true => rfl
  | false =>
    obtain ⟨h1, h2, h3, h4, h5⟩ := coreI_f h
    have h6 := coreI_gn h
    rw [of_iz hx] at h2 h3 h4 h6
    rw [h2, h3, h4, h6]
    simp [iz]
theorem of_loop {tok tok2 : Nat → Int} {l : Nat → Rw} {n : Nat} {I J : It} (k : ∀ i, i < n → RwOk (l i)) (h : coreI I = coreI (ofI tok l n).1) (h2 : coreI J = coreI (ofI tok2 l n).1) {r : Rw} (kr : RwOk r) :
    ((!(formedR r == rformedR r)) || ((!(sameI I J == rsameI I J)) && (ofI tok l n).2)) = false := by
  rw [rformedR_eq kr]
  cases hx : (ofI tok l n).2 with
  | false => simp
  | true =>
    have := of_same (tok2 := tok2) k hx
    rw [rsame_re h, rsame_re2 h2, same_re h, same_re2 h2, this]
    simp

set_option maxHeartbeats 4000000 in
theorem itemof_law (w : World) (p : Option Addr) (n c : Nat) (l : Nat → Rw) (hn : (n : Int) ≤ 9223372036854775807) (hl : Sl w p n 130 (fun i => encR (l i))) (hx : ∀ i, i < n → RwIn w (l i)) (kx : ∀ i, i < n → RwOk (l i)) (tok : Nat → Int) : Calls Try.prog 15 #[.slice p n c, .agg (arr .u8 16 tok).toArray] w (Ret (.bool true) w) := by
  refine fn_calls (n := 110) Try.func15 rfl rfl (lb rfl) ?_
  refine cseq ?_
  refine creg ?_
  refine lbxa rfl (fun b1 => ?_)
  refine l1 (asg rfl) ?_
  refine lnil ?_
  refine nthen ?_
  refine cseq ?_
  refine cseq ?_
  refine creg ?_
  refine l1 (cl hb29 rfl mn (fun w hw => awake18_calls w)) ?_
  refine l1 (nt rfl) ?_
  refine l1 (mvb rfl) ?_
  refine l1g rfl (gwf rfl) (fun h => mvs rfl) ?_
  refine l1g rfl (gwf rfl) (fun h => cl hb48 rfl (mc (gvt h) (mc rfl mn)) (fun w hw => fewrows_calls w p n c l 40 hn (Sl.keptS hl hw) (fun i hi => (hx i hi).keptS hw) kx)) ?_
  refine l1g rfl (gwf rfl) (fun h => nt (gvt h)) ?_
  refine l1 (pk_or rfl rfl rfl) ?_
  refine lnil ?_
  refine nthen ?_
  refine cif rfl (fun h1 => ?_) (fun h1 => ?_)
  · skip
    refine cseq ?_
    refine creg ?_
    refine l1 (cl hb29 rfl mn (fun w hw => awake18_calls w)) ?_
    refine l1 (asg rfl) ?_
    refine lnil ?_
    refine nthen ?_
    refine cret ?_
    refine nthenR ?_
    exact fin1 rfl rfl
  · have hF1 : fewR l n 40 = true := by (simpa using h1)
    have hn40 := (fewR_row hF1 (by decide)).1
    have hfx : ∀ i, i < n → (l i).hd.tn ≤ 20 ∧ (l i).ch.gn ≤ 20 := fun i hi => fewRow_le ((fewR_row hF1 (by decide)).2 i hi)
    have hcl := counted_len l n
    refine cskip ?_
    refine nthen ?_
    refine cseq ?_
    refine creg ?_
    refine l1 (mvs rfl) ?_
    refine lclm hb51 rfl (mc rfl mn) (fun w' hw => counting_calls w' p n c l (by omega) (Sl.keptS hl hw) (fun i hi => (hx i hi).keptS hw) kx) ?_
    rintro v22 H22 k22
    obtain ⟨p5, c5, rfl⟩ := k22.form
    refine l1 (asgs rfl) ?_
    refine lnil ?_
    refine nthen ?_
    refine cseq ?_
    refine creg ?_
    refine l1 (mvs rfl) ?_
    refine l1 (ldw 0 Try.isAgg34 Try.sizeOf34 rfl rfl rfl) ?_
    refine lclm hb50 rfl (mc rfl (mc rfl mn)) (fun w' hw => of_calls w' tok p n c l (by omega) (Sl.keptS hl hw) (fun i hi => (hx i hi).keptS hw) kx hfx) ?_
    rintro v26 Hn ⟨I, rfl, hI1, hIn⟩
    refine wl_tail 1 ?_
    have hIk : HdOk I.hd := core_ok (coreI_f hI1).1 (of_ok kx)
    have hIg : I.gn ≤ 20 := by rw [coreI_gn hI1]; exact of_gn (fun i hi => (hfx i hi).2)
    refine l1 (mv rfl) ?_
    refine l1 (ext (vs := [.agg (encI I).toArray, .bool (ofI tok l n).2]) rfl rfl) ?_
    refine l1 (ext (vs := [.agg (encI I).toArray, .bool (ofI tok l n).2]) rfl rfl) ?_
    refine lal (zs := encI iz) Try.zeroValue83 rfl (fun b2 => ?_)
    refine wl_perm (ins_perm 1 _ _) ?_
    refine lstw 1 rfl rfl rfl Try.sizeOf83 rfl rfl rfl ?_
    refine l1 (asgb rfl) ?_
    refine lnil ?_
    refine nthen ?_
    refine cseq ?_
    refine creg ?_
    refine l1 (mvs rfl) ?_
    refine l1 (ldw 0 Try.isAgg34 Try.sizeOf34 rfl rfl rfl) ?_
    refine l1 (cl (v := .tuple #[.agg (encI (ofI tok l n).1).toArray, .bool (ofI tok l n).2]) hb52 rfl (mc rfl (mc rfl mn)) (fun w' hw => rof_calls w' tok p5 (counted l n).length c5 (counted l n) rfl (by omega) (SlIn.sl (k22.slInL (el := fun i => encR ((counted l n).getD i rz)) (fun a => rfl) (fun i hi => ⟨_, getD_getR hi, rfl⟩)) (hw.sub (List.Sublist.cons _ (List.Sublist.cons _ (List.sublist_append_left _ _))))))) ?_
    refine l1 (mv rfl) ?_
    refine l1 (ext (vs := [.agg (encI (ofI tok l n).1).toArray, .bool (ofI tok l n).2]) rfl rfl) ?_
    refine l1 (ext (vs := [.agg (encI (ofI tok l n).1).toArray, .bool (ofI tok l n).2]) rfl rfl) ?_
    refine lal (zs := encI iz) Try.zeroValue83 rfl (fun b3 => ?_)
    refine wl_perm (ins_perm 2 _ _) ?_
    refine lstw 2 rfl rfl rfl Try.sizeOf83 rfl rfl rfl ?_
    refine l1 (asgb rfl) ?_
    refine lnil ?_
    refine nthen ?_
    refine cseq ?_
    refine cseq ?_
    refine creg ?_
    refine l1 (mvb rfl) ?_
    refine l1 (mvb rfl) ?_
    refine l1 (neqb Try.underlying4 rfl rfl) ?_
    refine l1 (mvb rfl) ?_
    refine l1g rfl (gwf rfl) (fun h => mvb rfl) ?_
    refine l1g rfl (gwf rfl) (fun h => mvb (gvt h)) ?_
    refine l1g rfl (ggt rfl) (fun h => ldw 1 Try.isAgg83 Try.sizeOf83 rfl rfl rfl) ?_
    refine l1g rfl (ggt rfl) (fun h => ldw 2 Try.isAgg83 Try.sizeOf83 rfl rfl rfl) ?_
    refine l1g rfl (ggt rfl) (fun h => cl hb53 rfl (mc (gvt h) (mc (gvt h) mn)) (fun w hw => rsameI_calls I (ofI tok l n).1 w (hIn.sat (hw.sub (List.Sublist.cons _ (List.Sublist.cons _ (List.Sublist.cons _ (List.sublist_append_right _ _)))))) (of_in (fun i hi => (hx i hi).keptS hw)) hIk (of_ok kx) (by omega))) ?_
    refine l1g rfl (ggt rfl) (fun h => nt (gvt h)) ?_
    refine l1g rfl (gwf rfl) (fun h => pk_and (gvt h) (gva h) rfl) ?_
    refine l1 (pk_or rfl rfl rfl) ?_
    refine l1 (mvb rfl) ?_
    refine l1g rfl (gwf rfl) (fun h => mvb rfl) ?_
    refine l1g rfl (gwf rfl) (fun h => nt (gvt h)) ?_
    refine l1g rfl (gwf rfl) (fun h => mvb (gvt h)) ?_
    refine l1g rfl (ggt rfl) (fun h => fa fa83_2 rfl) ?_
    refine l1g rfl (ggt rfl) (fun h => ldc 1 Try.isAgg4 rfl (gvt h) rfl) ?_
    refine l1g rfl (ggt rfl) (fun h => mvb (gvt h)) ?_
    refine l1g rfl (ggf rfl) (fun h => fa fa83_3 rfl) ?_
    refine l1g rfl (ggf rfl) (fun h => ldc 1 Try.isAgg4 rfl (gvt h) rfl) ?_
    refine l1g rfl (ggt rfl) (fun h => pk_or (gvt h) rfl (gva h)) ?_
    refine l1g rfl (ggt rfl) (fun h => mvb (gvt h)) ?_
    refine l1g rfl (ggf rfl) (fun h => fa fa83_4 rfl) ?_
    refine l1g rfl (ggf rfl) (fun h => ldc 1 Try.isAgg9 rfl (gvt h) rfl) ?_
    refine l1g rfl (ggf rfl) (fun h => neqs (gvt h) rfl) ?_
    refine l1g rfl (ggt rfl) (fun h => pk_or (gvt h) rfl (gva h)) ?_
    refine l1g rfl (ggt rfl) (fun h => mvb (gvt h)) ?_
    refine l1g rfl (ggf rfl) (fun h => fa fa83_5 rfl) ?_
    refine l1g rfl (ggf rfl) (fun h => ldc 1 Try.isAgg75 rfl (gvt h) rfl) ?_
    refine l1g rfl (ggf rfl) (fun h => lens sl75 rfl (gvt h)) ?_
    refine l1g rfl (ggf rfl) (fun h => gtr (gvt h) rfl) ?_
    refine l1g rfl (ggt rfl) (fun h => pk_or (gvt h) rfl (gva h)) ?_
    refine l1g rfl (gwf rfl) (fun h => pk_and (gvt h) (gva h) rfl) ?_
    refine l1 (pk_or rfl rfl rfl) ?_
    refine lnil ?_
    refine nthen ?_
    refine ciff (bf rfl (of_guard hI1)) ?_
    refine cskip ?_
    refine nthen ?_
    refine cseq ?_
    refine cseq ?_
    refine creg ?_
    refine l1 (asg rfl) ?_
    refine lnil ?_
    refine nthen ?_
    refine cblock ?_
    refine cloopI (σ := Nat) (fun s => [(0, .slice p n c), (6, .pointer (some ⟨b2, 0, none⟩)), (7, .bool (ofI tok l n).2), (10, .int .i64 (s : Int))]) (fun s => ([⟨b2, encI I, 83⟩] ++ (Hn))) (fun s => s ≤ n) (fun s => n - s) 0 (Nat.zero_le _) ⟨rfl, rfl, rfl, rfl, trivial⟩ (List.Sublist.cons _ (List.Sublist.cons_cons _ (List.Sublist.cons _ (List.sublist_append_right _ _)))) ?_
    rintro i j hi
    show WC _ _ _ (⟨b2, encI I, 83⟩ :: (Hn)) _ _ (over j [(0, .slice p n c), (6, .pointer (some ⟨b2, 0, none⟩)), (7, .bool (ofI tok l n).2), (10, .int .i64 (i : Int))])
    replace hi : i ≤ n := hi
    refine cseq ?_
    refine cseq ?_
    refine creg ?_
    refine l1 (mvi rfl) ?_
    refine l1 (mvs rfl) ?_
    refine l1 (lens sl74 rfl rfl) ?_
    refine l1 (lss rfl rfl) ?_
    refine lnil ?_
    refine nthen ?_
    refine cif rfl (fun h2 => ?_) (fun h2 => ?_)
    · have hlt : i < n := by (have := dt h2; omega)
      obtain ⟨b, o, hp, hbl, hm⟩ := hl.at hlt
      refine cskip ?_
      refine nthen ?_
      refine cseq ?_
      refine cblock ?_
      refine cseq ?_
      refine creg ?_
      refine l1 (mvs rfl) ?_
      refine l1 (mvs rfl) ?_
      refine l1 (mvi rfl) ?_
      refine l1 (isp sl74 hp rfl rfl (by omega) (by omega)) ?_
      refine l1 (fa fa79_0 rfl) ?_
      refine l1 (fa fa37_6 rfl) ?_
      refine l1 (ldam (vs := arr .u8 16 (l i).hd.item) Try.isAgg34 Try.sizeOf34 rfl rfl (fun w' hw => mem_part 37 16 ((hm i hlt).kept hw.below hbl))) ?_
      refine lclm hb50 rfl (mc rfl (mc rfl mn)) (fun w' hw => of_calls w' (l i).hd.item p n c l (by omega) (Sl.keptS hl hw) (fun i hi => (hx i hi).keptS hw) kx hfx) ?_
      rintro v84 Hn2 ⟨J, rfl, hJ1, hJn⟩
      refine wl_tail 1 ?_
      have hJk : HdOk J.hd := core_ok (coreI_f hJ1).1 (of_ok kx)
      have hJg : J.gn ≤ 20 := by rw [coreI_gn hJ1]; exact of_gn (fun i hi => (hfx i hi).2)
      refine l1 (mv rfl) ?_
      refine l1 (ext (vs := [.agg (encI J).toArray, .bool (ofI (l i).hd.item l n).2]) rfl rfl) ?_
      refine l1 (ext (vs := [.agg (encI J).toArray, .bool (ofI (l i).hd.item l n).2]) rfl rfl) ?_
      refine lal (zs := encI iz) Try.zeroValue83 rfl (fun b4 => ?_)
      refine wl_perm (ins_perm 1 _ _) ?_
      refine lstw 1 rfl rfl rfl Try.sizeOf83 rfl rfl rfl ?_
      refine l1 (asgb rfl) ?_
      refine lnil ?_
      refine nthen ?_
      refine cseq ?_
      refine cregq mo (by kernel_rfl) ?_
      refine q1 (mvs rfl) ?_
      refine q1 (mvi rfl) ?_
      refine q1 (isp sl74 hp rfl rfl (by omega) (by omega)) ?_
      refine q1 (ldam (vs := encR (l i)) Try.isAgg79 Try.sizeOf79 rfl rfl (fun w' hw => (hm i hlt).kept hw.below hbl)) ?_
      refine q1 (cl hb54 rfl (mc rfl mn) (fun w hw => rowformed_calls (l i) w ((hx i hlt).keptS hw) (kx i hlt))) ?_
      refine q1 (mvs rfl) ?_
      refine q1 (mvi rfl) ?_
      refine q1 (isp sl74 hp rfl rfl (by omega) (by omega)) ?_
      refine q1 (ldam (vs := encR (l i)) Try.isAgg79 Try.sizeOf79 rfl rfl (fun w' hw => (hm i hlt).kept hw.below hbl)) ?_
      refine q1 (cl hb49 rfl (mc rfl mn) (fun w hw => rrowformed_calls (l i) w ((hx i hlt).keptS hw) (kx i hlt))) ?_
      refine q1 (neqb Try.underlying4 rfl rfl) ?_
      refine q1 (mvb rfl) ?_
      refine q1g rfl (gwf rfl) (fun h => ldw 0 Try.isAgg83 Try.sizeOf83 rfl rfl rfl) ?_
      refine q1g rfl (gwf rfl) (fun h => ldw 1 Try.isAgg83 Try.sizeOf83 rfl rfl rfl) ?_
      refine q1g rfl (gwf rfl) (fun h => cl hb55 rfl (mc (gvt h) (mc (gvt h) mn)) (fun w hw => sameI_calls I J w (hIn.sat (hw.sub (List.Sublist.cons _ (List.Sublist.cons _ (List.sublist_append_left _ _))))) (hJn.sat (hw.sub (List.Sublist.cons _ (List.Sublist.cons _ (List.sublist_append_right _ _))))) hIk (by omega))) ?_
      refine q1g rfl (gwf rfl) (fun h => ldw 0 Try.isAgg83 Try.sizeOf83 rfl rfl rfl) ?_
      refine q1g rfl (gwf rfl) (fun h => ldw 1 Try.isAgg83 Try.sizeOf83 rfl rfl rfl) ?_
      refine q1g rfl (gwf rfl) (fun h => cl hb53 rfl (mc (gvt h) (mc (gvt h) mn)) (fun w hw => rsameI_calls I J w (hIn.sat (hw.sub (List.Sublist.cons _ (List.Sublist.cons _ (List.sublist_append_left _ _))))) (hJn.sat (hw.sub (List.Sublist.cons _ (List.Sublist.cons _ (List.sublist_append_right _ _))))) hIk hJk (by omega))) ?_
      refine q1g rfl (gwf rfl) (fun h => neqb Try.underlying4 (gvt h) (gvt h)) ?_
      refine q1g rfl (gwf rfl) (fun h => mvb (gvt h)) ?_
      refine q1g rfl (ggt rfl) (fun h => mvb rfl) ?_
      refine q1g rfl (gwf rfl) (fun h => pk_and (gvt h) (gva h) rfl) ?_
      refine q1 (pk_or rfl rfl rfl) ?_
      refine qnil ?_
      refine nthen ?_
      refine ciff (bf rfl (of_loop kx hI1 hJ1 (kx i hlt))) ?_
      refine cskip ?_
      refine nblkN ?_
      refine nthen ?_
      refine creg ?_
      refine l1 (mvi rfl) ?_
      first | refine l1 (addn rfl rfl (ri (by omega) (by omega))) ?_ | refine l1 (add rfl rfl) ?_
      refine l1 (asg rfl) ?_
      refine lnil ?_
      exact nI (i + 1) (by show i + 1 ≤ n; omega) (by show n - (i + 1) < n - i; omega) ⟨rfl, rfl, rfl, rfl, trivial⟩ (List.Sublist.cons_cons _ (List.Sublist.cons _ (List.sublist_append_left _ _)))
    · skip
      refine cexit ?_
      refine nthenE ?_
      refine nIE ?_
      refine nblkE ?_
      refine nthen ?_
      refine cseq ?_
      refine creg ?_
      refine l1 (asg rfl) ?_
      refine lnil ?_
      refine nthen ?_
      refine cret ?_
      exact fin1 rfl rfl
end Go.Proofs.Ytkdbjhlkahkobaa
/- what an argument that reads as data looks like in memory -/
namespace Jal
open Go Go.RowKit Go.ChangeShapes Go.WideShapes Go.ChangeAt
section
variable {H : Type} {enc : TypeId × Value → H} {P : Program} {w : World}
/-- cells that read as data of a type -/
def Dec (enc : TypeId × Value → H) (P : Program) (w : World) (t : TypeId) (cs : List Value) : Prop := ∃ fuel x, DataW.trod enc P w 0 (fun _ => true) true fuel t cs = some x
theorem Dec.of_trod {t : TypeId} {v : Value} {d : DataW H} {ps : List MemPlace} (h : DataW.Trod enc P w 0 (fun _ => true) true t v d ps) : Dec enc P w t v.cells.toList := by
  obtain ⟨f, hf⟩ := h; exact ⟨f, _, hf⟩
theorem wf_i64 {n : Int} (h : (Lit.int .i64 n).wf = true) : I64 n := by simpa [Lit.wf, IntKind.min, IntKind.max, IntKind.signed, IntKind.bits, I64] using h
theorem wf_u64 {n : Int} (h : (Lit.int .u64 n).wf = true) : U64 n := by simpa [Lit.wf, IntKind.min, IntKind.max, IntKind.signed, IntKind.bits, U64] using h
def U8 (n : Int) : Prop := 0 ≤ n ∧ n ≤ 255
theorem wf_u8 {n : Int} (h : (Lit.int .u8 n).wf = true) : U8 n := by simpa [Lit.wf, IntKind.min, IntKind.max, IntKind.signed, IntKind.bits, U8] using h
theorem Dec.int {t : TypeId} {cs : List Value} {k : IntKind} (h : Dec enc P w t cs) (ht : P.underlying t = some (.int k)) : ∃ n, cs = [.int k n] ∧ (Lit.int k n).wf = true := by
  obtain ⟨f, x, h⟩ := h
  obtain ⟨n, h1, _, h2⟩ := DataW.trod_int ht h
  exact ⟨n, h1, h2⟩
theorem Dec.bool {t : TypeId} {cs : List Value} (h : Dec enc P w t cs) (ht : P.underlying t = some .bool) : ∃ b, cs = [.bool b] := by
  obtain ⟨f, x, h⟩ := h
  obtain ⟨n, h1, _⟩ := DataW.trod_bool ht h
  exact ⟨n, h1⟩
theorem Dec.str {t : TypeId} {cs : List Value} (h : Dec enc P w t cs) (ht : P.underlying t = some .string) : ∃ s : ByteArray, cs = [.string s] ∧ s.size ≤ maxLen := by
  obtain ⟨f, x, h⟩ := h
  obtain ⟨n, h1, _, h2⟩ := DataW.trod_string ht h
  exact ⟨n, h1, h2⟩
theorem Dec.field {t : TypeId} {cs : List Value} {fs : Array Field} (h : Dec enc P w t cs) (ht : P.underlying t = some (.struct fs)) :
    cs.length = P.cellsOf t ∧ ∀ (i : Nat) (f : Field), fs[i]? = some f → Dec enc P w f.type ((cs.drop f.offset).take (P.cellsOf f.type)) := by
  obtain ⟨fu, x, h⟩ := h
  obtain ⟨xs, n, rfl, _, hl, hxl, hx⟩ := DataW.trod_struct ht h
  refine ⟨hl, fun i f hf => ?_⟩
  have := hx i f hf
  have hi : i < xs.length := by rw [hxl]; exact (Array.getElem?_eq_some_iff.1 hf).1
  rw [List.getElem?_eq_getElem hi] at this
  exact ⟨n, _, this⟩
theorem Dec.elem {t e : TypeId} {cs : List Value} {n : Nat} (h : Dec enc P w t cs) (ht : P.underlying t = some (.array n e)) :
    cs.length = P.cellsOf t ∧ ∀ i, i < n → Dec enc P w e ((cs.drop (i * P.cellsOf e)).take (P.cellsOf e)) := by
  obtain ⟨fu, x, h⟩ := h
  obtain ⟨xs, m, rfl, _, hl, hxl, hx⟩ := DataW.trod_array ht h
  refine ⟨hl, fun i hi => ?_⟩
  have := hx i hi
  rw [List.getElem?_eq_getElem (by omega)] at this
  exact ⟨m, _, this⟩
/-- an array of numbers -/
theorem Dec.arr {t e : TypeId} {cs : List Value} {n : Nat} {k : IntKind} (h : Dec enc P w t cs) (ht : P.underlying t = some (.array n e)) (he : P.underlying e = some (.int k)) (hc : P.cellsOf e = 1) (hl : P.cellsOf t = n) :
    ∃ f, cs = Jal.arr k n f ∧ ∀ i, i < n → (Lit.int k (f i)).wf = true := by
  obtain ⟨h1, h2⟩ := h.elem ht
  rw [hc] at h2
  obtain ⟨f, hf⟩ := Go.Deep.choose_lt (α := Int) (p := fun i m => (cs.drop (i * 1)).take 1 = [.int k m] ∧ (Lit.int k m).wf = true) (fun i hi => by
    obtain ⟨m, h3, h4⟩ := (h2 i hi).int he; exact ⟨m, h3, h4⟩)
  refine ⟨f, ?_, fun i hi => (hf i hi).2⟩
  apply List.ext_getElem?
  intro i
  unfold Jal.arr
  by_cases hi : i < n
  · have h3 := (hf i hi).1
    have h4 : (List.take 1 (List.drop (i * 1) cs))[0]? = some (.int k (f i)) := by rw [h3]; rfl
    rw [List.getElem?_take, if_pos (by omega), List.getElem?_drop, Nat.mul_one, Nat.add_zero] at h4
    rw [h4, List.getElem?_map, List.getElem?_range hi]; rfl
  · rw [List.getElem?_eq_none (by omega), List.getElem?_eq_none (by simpa using hi)]
theorem Dec.barr {t e : TypeId} {cs : List Value} {n : Nat} (h : Dec enc P w t cs) (ht : P.underlying t = some (.array n e)) (he : P.underlying e = some .bool) (hc : P.cellsOf e = 1) (hl : P.cellsOf t = n) :
    ∃ f, cs = Jal.barr n f := by
  obtain ⟨h1, h2⟩ := h.elem ht
  rw [hc] at h2
  obtain ⟨f, hf⟩ := Go.Deep.choose_lt (α := Bool) (p := fun i m => (cs.drop (i * 1)).take 1 = [.bool m]) (fun i hi => by
    obtain ⟨m, h3⟩ := (h2 i hi).bool he; exact ⟨m, h3⟩)
  refine ⟨f, ?_⟩
  apply List.ext_getElem?
  intro i
  unfold Jal.barr
  by_cases hi : i < n
  · have h3 := hf i hi
    have h4 : (List.take 1 (List.drop (i * 1) cs))[0]? = some (.bool (f i)) := by rw [h3]; rfl
    rw [List.getElem?_take, if_pos (by omega), List.getElem?_drop, Nat.mul_one, Nat.add_zero] at h4
    rw [h4, List.getElem?_map, List.getElem?_range hi]; rfl
  · rw [List.getElem?_eq_none (by omega), List.getElem?_eq_none (by simpa using hi)]
/-- a slice: what its elements' cells are -/
theorem Dec.slice {t e : TypeId} {a : Option Addr} {n c sz : Nat} {α : Type} [Inhabited α] {en : α → List Value} {ok : α → Prop} (h : Dec enc P w t [.slice a n c]) (ht : P.underlying t = some (.slice e))
    (hs : P.cellsOf e = sz) (h0 : 0 < sz) (hd : ∀ cs, Dec enc P w e cs → ∃ x, cs = en x ∧ ok x) :
    (n : Int) ≤ 9223372036854775807 ∧ ∃ l : Nat → α, Sl w a n sz (fun i => en (l i)) ∧ ∀ i, i < n → ok (l i) := by
  obtain ⟨fu, x, h⟩ := h
  rcases Go.Deep.open_slice ht h with ⟨hcs, _⟩ | ⟨ad, len, cap, m, f, D, Pl, hcs, _, hlc, hm, hmm, _, hx⟩
  · simp at hcs
    obtain ⟨rfl, rfl, rfl⟩ := hcs
    exact ⟨by omega, fun _ => default, ⟨.inl rfl⟩, fun i hi => by omega⟩
  · simp at hcs
    obtain ⟨rfl, rfl, rfl⟩ := hcs
    simp at hmm
    subst hmm
    have hel : ∀ i, i < n → ∃ y, (∃ cs', w.cells? 0 (ad.add (i * sz)) sz = some cs' ∧ cs' = en y) ∧ ok y := fun i hi => by
      obtain ⟨cs', h1, h2⟩ := hx i (by omega)
      rw [hs] at h1
      obtain ⟨y, rfl, hy⟩ := hd cs' ⟨_, _, h2⟩
      exact ⟨y, ⟨_, h1, rfl⟩, hy⟩
    obtain ⟨l, hl⟩ := Go.Deep.choose_lt hel
    refine ⟨by unfold maxLen at hm; omega, l, ⟨?_⟩, fun i hi => (hl i hi).2⟩
    by_cases hn : n = 0
    · exact .inl hn
    right
    have hc0 : ∀ i, i < n → ∀ j, j < sz → w.cell? ((ad.add (i * sz)).add j) = (en (l i))[j]? := fun i hi j hj => by
      obtain ⟨cs', h1, rfl⟩ := (hl i hi).1
      exact (World.cells?_some h1).2.2 j hj
    have hlen : ∀ i, i < n → (en (l i)).length = sz := fun i hi => by
      obtain ⟨cs', h1, rfl⟩ := (hl i hi).1
      exact (World.cells?_some h1).2.1
    obtain ⟨b, o, spot⟩ := ad
    have hcell0 := hc0 0 (by omega) 0 h0
    rw [List.getElem?_eq_getElem (by rw [hlen 0 (by omega)]; exact h0)] at hcell0
    have hspot : spot = none := by simpa [Addr.add] using World.cell?_spot hcell0
    subst hspot
    refine ⟨b, o, rfl, ?_, fun i hi j v hv => ?_⟩
    · have := World.block_lt_of_cell? w _ hcell0
      simpa [Addr.add] using this
    · have hj : j < sz := by rw [← hlen i hi]; exact (List.getElem?_eq_some_iff.1 hv).1
      have := hc0 i hi j hj
      rw [Addr.add_off] at this
      rw [this]; exact hv
theorem splitAt {cs A : List Value} {o k : Nat} (h : (cs.drop o).take k = A) : cs.drop o = A ++ cs.drop (o + k) := by
  rw [← h, ← List.drop_drop, List.take_append_drop]
end
end Jal
/- steps, read -/
namespace Go.Proofs.Ytkdbjhlkahkobaa
open Jal Go.RowKit
theorem cells3 : Try.prog.cellsOf 3 = 1 := by kernel_rfl
theorem cells4 : Try.prog.cellsOf 4 = 1 := by kernel_rfl
theorem cells5 : Try.prog.cellsOf 5 = 1 := by kernel_rfl
theorem cells22 : Try.prog.cellsOf 22 = 1 := by kernel_rfl
theorem cells45 : Try.prog.cellsOf 45 = 4 := by kernel_rfl
instance : Inhabited Stp := ⟨⟨0, 0, 0, 0⟩⟩
section
variable {H : Type} {enc : TypeId × Value → H} {w : World}
theorem dec45 {cs : List Value} (h : Dec enc Try.prog w 45 cs) : ∃ s, cs = encS s ∧ StpOk s := by
  obtain ⟨hl, hf⟩ := h.field Try.underlying45
  have f0 : Dec enc Try.prog w 3 ((cs.drop 0).take 1) := by have h0 : Dec enc Try.prog w 3 ((cs.drop 0).take (Try.prog.cellsOf 3)) := hf 0 _ rfl; rwa [cells3] at h0
  have f1 : Dec enc Try.prog w 3 ((cs.drop 1).take 1) := by have h0 : Dec enc Try.prog w 3 ((cs.drop 1).take (Try.prog.cellsOf 3)) := hf 1 _ rfl; rwa [cells3] at h0
  have f2 : Dec enc Try.prog w 3 ((cs.drop 2).take 1) := by have h0 : Dec enc Try.prog w 3 ((cs.drop 2).take (Try.prog.cellsOf 3)) := hf 2 _ rfl; rwa [cells3] at h0
  have f3 : Dec enc Try.prog w 22 ((cs.drop 3).take 1) := by have h0 : Dec enc Try.prog w 22 ((cs.drop 3).take (Try.prog.cellsOf 22)) := hf 3 _ rfl; rwa [cells22] at h0
  obtain ⟨n0, h0, w0⟩ := f0.int Try.underlying3
  obtain ⟨n1, h1, w1⟩ := f1.int Try.underlying3
  obtain ⟨n2, h2, w2⟩ := f2.int Try.underlying3
  obtain ⟨n3, h3, w3⟩ := f3.int Try.underlying22
  rw [cells45] at hl
  refine ⟨⟨n0, n1, n2, n3⟩, ?_, ⟨wf_i64 w0, wf_i64 w1, wf_i64 w2, wf_u64 w3⟩⟩
  show cs.drop 0 = _
  rw [splitAt h0, splitAt h1, splitAt h2, splitAt h3, List.drop_eq_nil_of_le (by omega)]
  rfl
end
end Go.Proofs.Ytkdbjhlkahkobaa
/- vectors, read -/
namespace Go.Proofs.Ytkdbjhlkahkobaa
open Jal Go.RowKit Go.WideShapes
set_option maxRecDepth 100000
theorem okWide_array {P : Program} {w : World} {r : Reach} {base : Nat} {t e : TypeId} {n : Nat} {v : Value} (ht : P.underlying t = some (.array n e)) (h : Value.okWide P w r base t v) : ∃ cs, v = .agg cs := by
  simp only [Value.okWide, ht] at h
  obtain ⟨cs, h1, _⟩ := h
  exact ⟨cs, h1⟩
theorem cells24 : Try.prog.cellsOf 24 = 6 := by kernel_rfl
theorem open24 {H : Type} {enc : TypeId × Value → H} {w : World} {base : Nat} {v : Value} (h : Value.okWide Try.prog w .any base 24 v) (e : Dec enc Try.prog w 24 v.cells.toList) :
    ∃ f, v = .agg (encV f).toArray ∧ ∀ i, i < 6 → U64 (f i) := by
  obtain ⟨cs, rfl⟩ := okWide_array Try.underlying24 h
  obtain ⟨f, h1, h2⟩ := e.arr Try.underlying24 Try.underlying22 cells22 cells24
  refine ⟨f, ?_, fun i hi => wf_u64 (h2 i hi)⟩
  have : cs.toList = encV f := h1
  rw [← this]
end Go.Proofs.Ytkdbjhlkahkobaa
/- headers, read -/
namespace Go.Proofs.Ytkdbjhlkahkobaa
open Jal Go.RowKit Go.WideShapes
set_option maxRecDepth 100000
instance : Inhabited Hd := ⟨⟨0, 0, fun _ => 0, 0, false, 0, fun _ => 0, none, 0, 0, fun _ _ => 0, fun _ => 0, fun _ => 0, 0, fun _ => 0⟩⟩
theorem cells32 : Try.prog.cellsOf 32 = 32 := by kernel_rfl
theorem cells34 : Try.prog.cellsOf 34 = 16 := by kernel_rfl
theorem cells35 : Try.prog.cellsOf 35 = 1 := by kernel_rfl
theorem cells23 : Try.prog.cellsOf 23 = 6 := by kernel_rfl
theorem cells37 : Try.prog.cellsOf 37 = 125 := by kernel_rfl
section
variable {H : Type} {enc : TypeId × Value → H} {w : World}
theorem decSlice0 {P : Program} {t e : TypeId} {cs : List Value} (h : Dec enc P w t cs) (ht : P.underlying t = some (.slice e)) : ∃ a n c, cs = [.slice a n c] := by
  obtain ⟨fu, x, h⟩ := h
  rcases Go.Deep.open_slice ht h with ⟨hcs, _⟩ | ⟨ad, len, cap, m, f, D, Pl, hcs, _⟩
  · exact ⟨_, _, _, hcs⟩
  · exact ⟨_, _, _, hcs⟩
theorem decToks {t e : TypeId} {cs : List Value} (h : Dec enc Try.prog w t cs) (ht : Try.prog.underlying t = some (.slice e)) (he : Try.prog.underlying e = some (.array 16 5)) (hc : Try.prog.cellsOf e = 16) :
    ∃ (a : Option Addr) (n c : Nat) (f : Nat → Nat → Int), cs = [.slice a n c] ∧ (n : Int) ≤ 9223372036854775807 ∧ Sl w a n 16 (fun i => arr .u8 16 (f i)) ∧ ∀ i, i < n → ∀ j, j < 16 → 0 ≤ f i j ∧ f i j ≤ 255 := by
  obtain ⟨a, n, c, rfl⟩ := decSlice0 h ht
  obtain ⟨h1, f, h2, h3⟩ := Dec.slice (α := Nat → Int) (en := fun f => arr .u8 16 f) (ok := fun f => ∀ j, j < 16 → 0 ≤ f j ∧ f j ≤ 255) h ht hc (by decide) (fun cs h => by
    obtain ⟨f, h1, h2⟩ := h.arr he Try.underlying5 cells5 hc
    exact ⟨f, h1, fun j hj => wf_u8 (h2 j hj)⟩)
  exact ⟨a, n, c, f, rfl, h1, h2, h3⟩
theorem dec37 {cs : List Value} (h : Dec enc Try.prog w 37 cs) : ∃ h, cs = encH h ∧ HdIn w h ∧ HdOk h := by
  obtain ⟨hl, hf⟩ := h.field Try.underlying37
  have f0 : Dec enc Try.prog w 3 ((cs.drop 0).take 1) := by have h0 : Dec enc Try.prog w 3 ((cs.drop 0).take (Try.prog.cellsOf 3)) := hf 0 _ rfl; rwa [cells3] at h0
  have f1 : Dec enc Try.prog w 22 ((cs.drop 1).take 1) := by have h0 : Dec enc Try.prog w 22 ((cs.drop 1).take (Try.prog.cellsOf 22)) := hf 1 _ rfl; rwa [cells22] at h0
  have f2 : Dec enc Try.prog w 32 ((cs.drop 2).take 32) := by have h0 : Dec enc Try.prog w 32 ((cs.drop 2).take (Try.prog.cellsOf 32)) := hf 2 _ rfl; rwa [cells32] at h0
  have f3 : Dec enc Try.prog w 3 ((cs.drop 34).take 1) := by have h0 : Dec enc Try.prog w 3 ((cs.drop 34).take (Try.prog.cellsOf 3)) := hf 3 _ rfl; rwa [cells3] at h0
  have f4 : Dec enc Try.prog w 4 ((cs.drop 35).take 1) := by have h0 : Dec enc Try.prog w 4 ((cs.drop 35).take (Try.prog.cellsOf 4)) := hf 4 _ rfl; rwa [cells4] at h0
  have f5 : Dec enc Try.prog w 22 ((cs.drop 36).take 1) := by have h0 : Dec enc Try.prog w 22 ((cs.drop 36).take (Try.prog.cellsOf 22)) := hf 5 _ rfl; rwa [cells22] at h0
  have f6 : Dec enc Try.prog w 34 ((cs.drop 37).take 16) := by have h0 : Dec enc Try.prog w 34 ((cs.drop 37).take (Try.prog.cellsOf 34)) := hf 6 _ rfl; rwa [cells34] at h0
  have f7 : Dec enc Try.prog w 35 ((cs.drop 53).take 1) := by have h0 : Dec enc Try.prog w 35 ((cs.drop 53).take (Try.prog.cellsOf 35)) := hf 7 _ rfl; rwa [cells35] at h0
  have f8 : Dec enc Try.prog w 23 ((cs.drop 54).take 6) := by have h0 : Dec enc Try.prog w 23 ((cs.drop 54).take (Try.prog.cellsOf 23)) := hf 8 _ rfl; rwa [cells23] at h0
  have f9 : Dec enc Try.prog w 32 ((cs.drop 60).take 32) := by have h0 : Dec enc Try.prog w 32 ((cs.drop 60).take (Try.prog.cellsOf 32)) := hf 9 _ rfl; rwa [cells32] at h0
  have f10 : Dec enc Try.prog w 3 ((cs.drop 92).take 1) := by have h0 : Dec enc Try.prog w 3 ((cs.drop 92).take (Try.prog.cellsOf 3)) := hf 10 _ rfl; rwa [cells3] at h0
  have f11 : Dec enc Try.prog w 32 ((cs.drop 93).take 32) := by have h0 : Dec enc Try.prog w 32 ((cs.drop 93).take (Try.prog.cellsOf 32)) := hf 11 _ rfl; rwa [cells32] at h0
  obtain ⟨n0, h0, w0⟩ := f0.int Try.underlying3
  obtain ⟨n1, h1, w1⟩ := f1.int Try.underlying22
  obtain ⟨n2, h2, w2⟩ := f2.arr Try.underlying32 Try.underlying5 cells5 cells32
  obtain ⟨n3, h3, w3⟩ := f3.int Try.underlying3
  obtain ⟨n4, h4⟩ := f4.bool Try.underlying4
  obtain ⟨n5, h5, w5⟩ := f5.int Try.underlying22
  obtain ⟨n6, h6, w6⟩ := f6.arr Try.underlying34 Try.underlying5 cells5 cells34
  obtain ⟨a, n, c, f, h7, w7, s7, t7⟩ := decToks f7 Try.underlying35 Try.underlying34 cells34
  obtain ⟨n8, h8, w8⟩ := f8.arr Try.underlying23 Try.underlying22 cells22 cells23
  obtain ⟨n9, h9, w9⟩ := f9.arr Try.underlying32 Try.underlying5 cells5 cells32
  obtain ⟨n10, h10, w10⟩ := f10.int Try.underlying3
  obtain ⟨n11, h11, w11⟩ := f11.arr Try.underlying32 Try.underlying5 cells5 cells32
  rw [cells37] at hl
  refine ⟨⟨n0, n1, n2, n3, n4, n5, n6, a, n, c, f, n8, n9, n10, n11⟩, ?_, s7, ⟨wf_i64 w0, wf_u64 w1, wf_i64 w3, wf_u64 w5, w7, fun i hi => wf_u64 (w8 i hi), wf_i64 w10, t7, fun i hi => wf_u8 (w6 i hi), fun i hi => wf_u8 (w2 i hi), fun i hi => wf_u8 (w9 i hi), fun i hi => wf_u8 (w11 i hi)⟩⟩
  show cs.drop 0 = _
  rw [splitAt h0, splitAt h1, splitAt h2, splitAt h3, splitAt h4, splitAt h5, splitAt h6, splitAt h7, splitAt h8, splitAt h9, splitAt h10, splitAt h11, List.drop_eq_nil_of_le (by omega)]
  simp only [encH, List.append_nil, List.singleton_append, List.cons_append, List.nil_append]
theorem open37 {base : Nat} {v : Value} (h : Value.okWide Try.prog w .any base 37 v) (e : Dec enc Try.prog w 37 v.cells.toList) :
    ∃ h, v = .agg (encH h).toArray ∧ HdIn w h ∧ HdOk h := by
  obtain ⟨cs, rfl, _⟩ := okWide_struct Try.underlying37 h
  obtain ⟨f, h1, h2⟩ := dec37 e
  refine ⟨f, ?_, h2⟩
  have : cs.toList = encH f := h1
  rw [← this]
end
end Go.Proofs.Ytkdbjhlkahkobaa
/- rows, read -/
namespace Go.Proofs.Ytkdbjhlkahkobaa
open Jal Go.RowKit Go.WideShapes
set_option maxRecDepth 100000
theorem cells9 : Try.prog.cellsOf 9 = 1 := by kernel_rfl
theorem cells75 : Try.prog.cellsOf 75 = 1 := by kernel_rfl
theorem cells77 : Try.prog.cellsOf 77 = 4 := by kernel_rfl
theorem cells79 : Try.prog.cellsOf 79 = 130 := by kernel_rfl
instance : Inhabited Rw := ⟨rz⟩
section
variable {H : Type} {enc : TypeId × Value → H} {w : World}
theorem dec77 {cs : List Value} (h : Dec enc Try.prog w 77 cs) : ∃ c, cs = encCh c ∧ ChIn w c ∧ ChOk c := by
  obtain ⟨hl, hf⟩ := h.field Try.underlying77
  have f0 : Dec enc Try.prog w 3 ((cs.drop 0).take 1) := by have h0 : Dec enc Try.prog w 3 ((cs.drop 0).take (Try.prog.cellsOf 3)) := hf 0 _ rfl; rwa [cells3] at h0
  have f1 : Dec enc Try.prog w 9 ((cs.drop 1).take 1) := by have h0 : Dec enc Try.prog w 9 ((cs.drop 1).take (Try.prog.cellsOf 9)) := hf 1 _ rfl; rwa [cells9] at h0
  have f2 : Dec enc Try.prog w 75 ((cs.drop 2).take 1) := by have h0 : Dec enc Try.prog w 75 ((cs.drop 2).take (Try.prog.cellsOf 75)) := hf 2 _ rfl; rwa [cells75] at h0
  have f3 : Dec enc Try.prog w 9 ((cs.drop 3).take 1) := by have h0 : Dec enc Try.prog w 9 ((cs.drop 3).take (Try.prog.cellsOf 9)) := hf 3 _ rfl; rwa [cells9] at h0
  obtain ⟨n0, h0, w0⟩ := f0.int Try.underlying3
  obtain ⟨n1, h1, w1⟩ := f1.str Try.underlying9
  obtain ⟨a, n, c, h2⟩ := decSlice0 f2 Try.underlying75
  rw [h2] at f2
  obtain ⟨k2, f, s2, t2⟩ := Dec.slice (α := ByteArray) (en := encT) (ok := fun s => s.size ≤ maxLen) f2 Try.underlying75 cells9 (by decide) (fun cs h => by
    obtain ⟨s, g1, g2⟩ := h.str Try.underlying9
    exact ⟨s, g1, g2⟩)
  obtain ⟨n3, h3, w3⟩ := f3.str Try.underlying9
  rw [cells77] at hl
  refine ⟨⟨n0, n1, a, n, c, f, n3⟩, ?_, s2, ⟨wf_i64 w0, k2, w1, w3, t2⟩⟩
  show cs.drop 0 = _
  rw [splitAt h0, splitAt h1, splitAt h2, splitAt h3, List.drop_eq_nil_of_le (by omega)]
  rfl
theorem dec79 {cs : List Value} (h : Dec enc Try.prog w 79 cs) : ∃ r, cs = encR r ∧ RwIn w r ∧ RwOk r := by
  obtain ⟨hl, hf⟩ := h.field Try.underlying79
  have f0 : Dec enc Try.prog w 37 ((cs.drop 0).take 125) := by have h0 : Dec enc Try.prog w 37 ((cs.drop 0).take (Try.prog.cellsOf 37)) := hf 0 _ rfl; rwa [cells37] at h0
  have f1 : Dec enc Try.prog w 4 ((cs.drop 125).take 1) := by have h0 : Dec enc Try.prog w 4 ((cs.drop 125).take (Try.prog.cellsOf 4)) := hf 1 _ rfl; rwa [cells4] at h0
  have f2 : Dec enc Try.prog w 77 ((cs.drop 126).take 4) := by have h0 : Dec enc Try.prog w 77 ((cs.drop 126).take (Try.prog.cellsOf 77)) := hf 2 _ rfl; rwa [cells77] at h0
  obtain ⟨hd, h0, i0, k0⟩ := dec37 f0
  obtain ⟨b, h1⟩ := f1.bool Try.underlying4
  obtain ⟨ch, h2, i2, k2⟩ := dec77 f2
  rw [cells79] at hl
  refine ⟨⟨hd, b, ch⟩, ?_, ⟨i0, i2⟩, ⟨k0, k2⟩⟩
  have e0 : cs = cs.take 125 ++ ((cs.drop 125).take 1 ++ (cs.drop 126).take 4) := by
    apply List.ext_getElem?
    intro i
    simp only [List.getElem?_append, List.getElem?_take, List.getElem?_drop, List.length_take, List.length_drop, hl]
    by_cases g1 : i < 125
    · simp [g1]
    · by_cases g2 : i < 126
      · simp [g1, show i - 125 < 1 by omega, show 125 + (i - 125) = i by omega]
      · by_cases g3 : i < 130
        · simp [g1, show ¬ i - 125 < 1 by omega, show i - 125 - 1 < 4 by omega, show 126 + (i - 125 - 1) = i by omega]
        · rw [List.getElem?_eq_none (by omega)]
          simp [g1, show ¬ i - 125 < 1 by omega, show ¬ i - 125 - 1 < 4 by omega]
  rw [List.drop_zero] at h0
  rw [e0, h0, h1, h2]
  rfl
theorem open79 {base : Nat} {v : Value} (h : Value.okWide Try.prog w .any base 79 v) (e : Dec enc Try.prog w 79 v.cells.toList) :
    ∃ r, v = .agg (encR r).toArray ∧ RwIn w r ∧ RwOk r := by
  obtain ⟨cs, rfl, _⟩ := okWide_struct Try.underlying79 h
  obtain ⟨f, h1, h2⟩ := dec79 e
  refine ⟨f, ?_, h2⟩
  have : cs.toList = encR f := h1
  rw [← this]
end
end Go.Proofs.Ytkdbjhlkahkobaa
/- tokens, read -/
namespace Go.Proofs.Ytkdbjhlkahkobaa
open Jal Go.RowKit Go.WideShapes
set_option maxRecDepth 100000
theorem open34 {H : Type} {enc : TypeId × Value → H} {w : World} {base : Nat} {v : Value} (h : Value.okWide Try.prog w .any base 34 v) (e : Dec enc Try.prog w 34 v.cells.toList) :
    ∃ f, v = .agg (arr .u8 16 f).toArray ∧ ∀ i, i < 16 → 0 ≤ f i ∧ f i ≤ 255 := by
  obtain ⟨cs, rfl⟩ := okWide_array Try.underlying34 h
  obtain ⟨f, h1, h2⟩ := e.arr Try.underlying34 Try.underlying5 cells5 cells34
  refine ⟨f, ?_, fun i hi => wf_u8 (h2 i hi)⟩
  have : cs.toList = arr .u8 16 f := h1
  rw [← this]
end Go.Proofs.Ytkdbjhlkahkobaa
