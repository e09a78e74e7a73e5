/- several texts of ours, joined: Yj, Yl, Ym, Fld, Fl2, Flt, Yn, Yo -/
import Derived.Test.YtkdbjhlkahkobaaZa
import Derived.Test.YtkdbjhlkahkobaaZg
import Derived.Test.YtkdbjhlkahkobaaZb
import Derived.Test.YtkdbjhlkahkobaaZf
/- walks, printed by a program of ours -/
namespace Go.Proofs.Ytkdbjhlkahkobaa
open Jal Go.RowKit
set_option maxRecDepth 100000
theorem bk83z2 : ∀ w, (Instr.build 83 #[]).run Try.prog w = .ok (.agg (encI iz).toArray) w := fun w => by kernel_rfl
theorem bk83b (t : Nat → Int) (h : Hd) (k : Bool) : ∀ w, (Instr.build 83 #[(0, .agg (arr .u8 16 t).toArray), (1, .agg (encH h).toArray), (2, .bool k)]).run Try.prog w = .ok (.agg (encI ⟨t, h, k, false, ByteArray.empty, none, 0, 0, fun _ => ByteArray.empty, ByteArray.empty⟩).toArray) w := fun w => by kernel_rfl
theorem encI_setName (i : It) (v : ByteArray) : (encI i).set 143 (.string v) = encI { i with name := v } := rfl

theorem IxOk.lt {q : Rw → Bool} {C : List Rw} {tok : Nat → Int} {i : Nat} {a : Int} (h : IxOk q C tok i a) (hi : i ≤ C.length) : a < (C.length : Int) := by
  rcases h with ⟨h, _⟩ | ⟨k, h, h2, _⟩ <;> omega

theorem lat_rz {q : Rw → Bool} {L : List Rw} (h : (latR q L).2 = false) : latR q L = (rz, false) := by
  unfold latR at h ⊢
  cases hd : decide (((L.filter q).length : Int) = 0) with
  | true => rfl
  | false => rw [hd] at h; cases h
theorem val_known {L : List Rw} (h : (latR knownR L).2 = false) : (latR valuedR L).2 = false := by
  cases hv : (latR valuedR L).2 with
  | false => rfl
  | true =>
    obtain ⟨h1, h2⟩ := lat_in valuedR L hv
    have h3 : knownR (latR valuedR L).1 = true := by unfold valuedR at h2; rw [Bool.and_eq_true] at h2; exact h2.1
    rw [(lat_ge knownR L _ h1 h3).1] at h; cases h
theorem made_alive {tok : Nat → Int} {R : List Rw} {A K V : Rw} (hA : latR anyR R = (A, true)) (hK : latR knownR R = (K, true)) (hV : latR valuedR R = (V, true)) (ho : V.ch.op = 1) :
    madeI tok R = ⟨tok, A.hd, A.known, true, K.ch.name, K.ch.gp, K.ch.gn, K.ch.gc, K.ch.tag, V.ch.value⟩ := by
  unfold madeI; rw [hA, hK, hV]; simp [ho]
theorem made_dead {tok : Nat → Int} {R : List Rw} {A : Rw} (hA : latR anyR R = (A, true)) (h : ((latR valuedR R).2 && decide ((latR valuedR R).1.ch.op = 1)) = false) :
    madeI tok R = ⟨tok, A.hd, A.known, false, (latR knownR R).1.ch.name, none, 0, 0, fun _ => ByteArray.empty, ByteArray.empty⟩ := by
  unfold madeI; rw [h, hA]; rfl

set_option maxHeartbeats 2000000 in
theorem rof_calls (w : World) (tok : Nat → Int) (p : Option Addr) (n c : Nat) (C : List Rw) (hC : C.length = n) (hn : n ≤ 100) (hl : Sl w p n 130 (fun i => encR (C.getD i rz))) : Calls Try.prog 52 #[.slice p n c, .agg (arr .u8 16 tok).toArray] w (Ret (.tuple #[.agg (encI (oI tok C).1).toArray, .bool (oI tok C).2]) w) := by
  refine fn_calls (n := 131) Try.func52 rfl rfl (lb rfl) ?_
  refine cseq ?_
  refine creg ?_
  refine lbxa rfl (fun b1 => ?_)
  refine lal (zs := encI iz) Try.zeroValue83 rfl (fun b2 => ?_)
  refine l1 (asgb rfl) ?_
  refine lnil ?_
  refine nthen ?_
  refine cseq ?_
  refine creg ?_
  refine l1 (asg rfl) ?_
  refine l1 (asg rfl) ?_
  refine l1 (asg rfl) ?_
  refine lnil ?_
  refine nthen ?_
  refine cseq ?_
  refine cseq ?_
  refine creg ?_
  refine l1 (asgi rfl) ?_
  refine lnil ?_
  refine nthen ?_
  refine cblock ?_
  refine cloopI (σ := Nat × Int × Int × Int) (fun s => [(0, .slice p n c), (3, .pointer (some ⟨b1, 0, none⟩)), (4, .pointer (some ⟨b2, 0, none⟩)), (5, .bool false), (6, .int .i64 s.2.1), (7, .int .i64 s.2.2.1), (8, .int .i64 s.2.2.2), (9, .int .i64 (s.1 : Int))]) (fun s => [⟨b1, arr .u8 16 tok, 34⟩, ⟨b2, encI iz, 83⟩]) (fun s => s.1 ≤ n ∧ IxOk anyR C tok s.1 s.2.1 ∧ IxOk knownR C tok s.1 s.2.2.1 ∧ IxOk valuedR C tok s.1 s.2.2.2) (fun s => n - s.1) (0, -1, -1, -1) ⟨Nat.zero_le _, IxOk.start _ _ _, IxOk.start _ _ _, IxOk.start _ _ _⟩ ⟨rfl, rfl, rfl, rfl, rfl, rfl, rfl, rfl, trivial⟩ (List.Sublist.refl _) ?_
  rintro ⟨i, a, k, v⟩ j hI; replace hI : i ≤ n ∧ IxOk anyR C tok i a ∧ IxOk knownR C tok i k ∧ IxOk valuedR C tok i v := hI; obtain ⟨hi, hA, hK, hV⟩ := hI
  show WC _ _ _ ([⟨b1, arr .u8 16 tok, 34⟩, ⟨b2, encI iz, 83⟩]) _ _ (over j [(0, .slice p n c), (3, .pointer (some ⟨b1, 0, none⟩)), (4, .pointer (some ⟨b2, 0, none⟩)), (5, .bool false), (6, .int .i64 a), (7, .int .i64 k), (8, .int .i64 v), (9, .int .i64 (i : Int))])
  refine cseq ?_
  refine cseq ?_
  refine creg ?_
  refine l1 (mvi rfl) ?_
  refine l1 (mvs rfl) ?_
  refine l1 (lens sl74 rfl rfl) ?_
  refine l1 (lss rfl rfl) ?_
  refine lnil ?_
  refine nthen ?_
  refine cif rfl (fun h1 => ?_) (fun h1 => ?_)
  · have hlt : i < n := by (have := dt h1; omega)
    obtain ⟨b, o, hp, hbl, hm⟩ := hl.at hlt
    have hab : a < (n : Int) := by (have := hA.lt (by omega); omega)
    have hkb : k < (n : Int) := by (have := hK.lt (by omega); omega)
    have hvb : v < (n : Int) := by (have := hV.lt (by omega); omega)
    refine cskip ?_
    refine nthen ?_
    refine cseq ?_
    refine cblock ?_
    refine cseq ?_
    refine creg ?_
    refine l1 (mvs rfl) ?_
    refine l1 (mvi rfl) ?_
    refine l1 (isp sl74 hp rfl rfl (by omega) (by omega)) ?_
    refine l1 (ldam (vs := encR (C.getD i rz)) Try.isAgg79 Try.sizeOf79 rfl rfl (fun w' hw => (hm i hlt).kept hw.below hbl)) ?_
    refine lal (zs := encR rz) Try.zeroValue79 rfl (fun b3 => ?_)
    refine lstw 2 rfl rfl rfl Try.sizeOf79 rfl rfl rfl ?_
    refine lnil ?_
    refine nthen ?_
    refine cseq ?_
    refine cseq ?_
    refine creg ?_
    refine l1 (fa fa79_0 rfl) ?_
    refine l1 (fa fa37_6 rfl) ?_
    refine l1 (lda 2 Try.isAgg34 Try.sizeOf34 rfl rfl (encR_item _) rfl) ?_
    refine l1 (ldw 0 Try.isAgg34 Try.sizeOf34 rfl rfl rfl) ?_
    refine l1 (neqa rfl rfl (fun w => neql34 _ _ w)) ?_
    refine lnil ?_
    refine nthen ?_
    refine cif rfl (fun h2 => ?_) (fun h2 => ?_)
    · have he : eqA 16 tok (C.getD i rz).hd.item = false := by (rw [eqA_comm]; simpa using h2)
      have hA2 := hA.skip (by omega) he
      have hK2 := hK.skip (by omega) he
      have hV2 := hV.skip (by omega) he
      refine cexit ?_
      refine nthenE ?_
      refine nblkE ?_
      refine nthen ?_
      refine creg ?_
      refine l1 (mvi rfl) ?_
      first | refine l1 (addn rfl rfl (ri (by omega) (by omega))) ?_ | refine l1 (add rfl rfl) ?_
      refine l1 (asgi rfl) ?_
      refine lnil ?_
      exact nI (i + 1, _, _, _) ⟨(by show i + 1 ≤ n; omega), hA2, hK2, hV2⟩ (by show n - (i + 1) < n - i; omega) ⟨rfl, rfl, rfl, rfl, rfl, rfl, rfl, rfl, trivial⟩ (List.Sublist.cons_cons _ (List.Sublist.cons_cons _ (List.Sublist.cons _ (List.Sublist.refl _))))
    · have he : eqA 16 tok (C.getD i rz).hd.item = true := by (rw [eqA_comm]; simpa using h2)
      refine cskip ?_
      refine nthen ?_
      refine cseq ?_
      refine cseq ?_
      refine cregq mo (by kernel_rfl) ?_
      refine q1 (mvi rfl) ?_
      refine q1 (lss rfl rfl) ?_
      refine q1 (mvb rfl) ?_
      refine q1g rfl (gwf rfl) (fun h => fa fa79_0 rfl) ?_
      refine q1g rfl (gwf rfl) (fun h => lda 2 Try.isAgg37 Try.sizeOf37 rfl (gvt h) (encR_hd _) rfl) ?_
      refine q1g rfl (gwf rfl) (fun h => mvs rfl) ?_
      refine q1g rfl (gwf rfl) (fun h => mvi rfl) ?_
      refine q1g rfl (gwf rfl) (fun h => isp (b := pb p) (o := po p) sl74 (hl.hp (i := a.toNat) (by (have := hab; simp at h; omega))) (gvt h) (gvt h) (by simp at h; omega) (by (have := hab; simp at h; omega))) ?_
      refine q1g rfl (gwf rfl) (fun h => fa fa79_0 (gvt h)) ?_
      refine q1g rfl (gwf rfl) (fun h => ldam (vs := encH (C.getD a.toNat rz).hd) Try.isAgg37 Try.sizeOf37 (gvt h) rfl (fun w' hw => mem_part 0 125 (hl.memP (i := a.toNat) (by (have := hab; simp at h; omega)) hw.below))) ?_
      refine q1g rfl (gwf rfl) (fun h => cl hb30 rfl (mc (gvt h) (mc (gvt h) mn)) (fun w hw => rlater_calls _ _ w)) ?_
      refine q1 (pk_or rfl rfl rfl) ?_
      refine qnil ?_
      refine nthen ?_
      refine cif rfl (fun h3 => ?_) (fun h3 => ?_)
      · have hA2 := hA.yes (by omega) he h3
        refine creg ?_
        refine l1 (mvi rfl) ?_
        refine l1 (asg rfl) ?_
        refine lnil ?_
        refine nthen ?_
        refine cseq ?_
        refine cseq ?_
        refine cregq mo (by kernel_rfl) ?_
        refine q1 (fa fa79_1 rfl) ?_
        refine q1 (ldc 2 Try.isAgg4 rfl rfl rfl) ?_
        refine q1 (mvb rfl) ?_
        refine q1g rfl (gwt rfl) (fun h => mvi rfl) ?_
        refine q1g rfl (gwt rfl) (fun h => lss (gvt h) rfl) ?_
        refine q1g rfl (gwt rfl) (fun h => mvb (gvt h)) ?_
        refine q1g rfl (ggf rfl) (fun h => fa fa79_0 rfl) ?_
        refine q1g rfl (ggf rfl) (fun h => lda 2 Try.isAgg37 Try.sizeOf37 rfl (gvt h) (encR_hd _) rfl) ?_
        refine q1g rfl (ggf rfl) (fun h => mvs rfl) ?_
        refine q1g rfl (ggf rfl) (fun h => mvi rfl) ?_
        refine q1g rfl (ggf rfl) (fun h => isp (b := pb p) (o := po p) sl74 (hl.hp (i := k.toNat) (by (have := hkb; simp at h; omega))) (gvt h) (gvt h) (by simp at h; omega) (by (have := hkb; simp at h; omega))) ?_
        refine q1g rfl (ggf rfl) (fun h => fa fa79_0 (gvt h)) ?_
        refine q1g rfl (ggf rfl) (fun h => ldam (vs := encH (C.getD k.toNat rz).hd) Try.isAgg37 Try.sizeOf37 (gvt h) rfl (fun w' hw => mem_part 0 125 (hl.memP (i := k.toNat) (by (have := hkb; simp at h; omega)) hw.below))) ?_
        refine q1g rfl (ggf rfl) (fun h => cl hb30 rfl (mc (gvt h) (mc (gvt h) mn)) (fun w hw => rlater_calls _ _ w)) ?_
        refine q1g rfl (gwt rfl) (fun h => pk_or (gvt h) rfl (gva h)) ?_
        refine q1 (pk_and rfl rfl rfl) ?_
        refine qnil ?_
        refine nthen ?_
        refine cif rfl (fun h4 => ?_) (fun h4 => ?_)
        · have hK2 := hK.yes (by omega) he h4
          refine creg ?_
          refine l1 (mvi rfl) ?_
          refine l1 (asg rfl) ?_
          refine lnil ?_
          refine nthen ?_
          refine cseq ?_
          refine cregq mo (by kernel_rfl) ?_
          refine q1 (fa fa79_1 rfl) ?_
          refine q1 (ldc 2 Try.isAgg4 rfl rfl rfl) ?_
          refine q1 (mvb rfl) ?_
          refine q1g rfl (gwt rfl) (fun h => fa fa79_2 rfl) ?_
          refine q1g rfl (gwt rfl) (fun h => fa fa77_0 (gvt h)) ?_
          refine q1g rfl (gwt rfl) (fun h => ldc 2 Try.isAgg3 rfl (gvt h) rfl) ?_
          refine q1g rfl (gwt rfl) (fun h => neq (gvt h) rfl) ?_
          refine q1 (pk_and rfl rfl rfl) ?_
          refine q1 (mvb rfl) ?_
          refine q1g rfl (gwt rfl) (fun h => mvi rfl) ?_
          refine q1g rfl (gwt rfl) (fun h => lss (gvt h) rfl) ?_
          refine q1g rfl (gwt rfl) (fun h => mvb (gvt h)) ?_
          refine q1g rfl (ggf rfl) (fun h => fa fa79_0 rfl) ?_
          refine q1g rfl (ggf rfl) (fun h => lda 2 Try.isAgg37 Try.sizeOf37 rfl (gvt h) (encR_hd _) rfl) ?_
          refine q1g rfl (ggf rfl) (fun h => mvs rfl) ?_
          refine q1g rfl (ggf rfl) (fun h => mvi rfl) ?_
          refine q1g rfl (ggf rfl) (fun h => isp (b := pb p) (o := po p) sl74 (hl.hp (i := v.toNat) (by (have := hvb; simp at h; omega))) (gvt h) (gvt h) (by simp at h; omega) (by (have := hvb; simp at h; omega))) ?_
          refine q1g rfl (ggf rfl) (fun h => fa fa79_0 (gvt h)) ?_
          refine q1g rfl (ggf rfl) (fun h => ldam (vs := encH (C.getD v.toNat rz).hd) Try.isAgg37 Try.sizeOf37 (gvt h) rfl (fun w' hw => mem_part 0 125 (hl.memP (i := v.toNat) (by (have := hvb; simp at h; omega)) hw.below))) ?_
          refine q1g rfl (ggf rfl) (fun h => cl hb30 rfl (mc (gvt h) (mc (gvt h) mn)) (fun w hw => rlater_calls _ _ w)) ?_
          refine q1g rfl (gwt rfl) (fun h => pk_or (gvt h) rfl (gva h)) ?_
          refine q1 (pk_and rfl rfl rfl) ?_
          refine qnil ?_
          refine nthen ?_
          refine cif rfl (fun h5 => ?_) (fun h5 => ?_)
          · have hV2 := hV.yes (by omega) he h5
            refine creg ?_
            refine l1 (mvi rfl) ?_
            refine l1 (asg rfl) ?_
            refine lnil ?_
            refine nblkN ?_
            refine nthen ?_
            refine creg ?_
            refine l1 (mvi rfl) ?_
            first | refine l1 (addn rfl rfl (ri (by omega) (by omega))) ?_ | refine l1 (add rfl rfl) ?_
            refine l1 (asgi rfl) ?_
            refine lnil ?_
            exact nI (i + 1, _, _, _) ⟨(by show i + 1 ≤ n; omega), hA2, hK2, hV2⟩ (by show n - (i + 1) < n - i; omega) ⟨rfl, rfl, rfl, rfl, rfl, rfl, rfl, rfl, trivial⟩ (List.Sublist.cons_cons _ (List.Sublist.cons_cons _ (List.Sublist.cons _ (List.Sublist.refl _))))
          · have hV2 := hV.no (by omega) he h5
            refine cskip ?_
            refine nblkN ?_
            refine nthen ?_
            refine creg ?_
            refine l1 (mvi rfl) ?_
            first | refine l1 (addn rfl rfl (ri (by omega) (by omega))) ?_ | refine l1 (add rfl rfl) ?_
            refine l1 (asgi rfl) ?_
            refine lnil ?_
            exact nI (i + 1, _, _, _) ⟨(by show i + 1 ≤ n; omega), hA2, hK2, hV2⟩ (by show n - (i + 1) < n - i; omega) ⟨rfl, rfl, rfl, rfl, rfl, rfl, rfl, rfl, trivial⟩ (List.Sublist.cons_cons _ (List.Sublist.cons_cons _ (List.Sublist.cons _ (List.Sublist.refl _))))
        · have hK2 := hK.no (by omega) he h4
          refine cskip ?_
          refine nthen ?_
          refine cseq ?_
          refine cregq mo (by kernel_rfl) ?_
          refine q1 (fa fa79_1 rfl) ?_
          refine q1 (ldc 2 Try.isAgg4 rfl rfl rfl) ?_
          refine q1 (mvb rfl) ?_
          refine q1g rfl (gwt rfl) (fun h => fa fa79_2 rfl) ?_
          refine q1g rfl (gwt rfl) (fun h => fa fa77_0 (gvt h)) ?_
          refine q1g rfl (gwt rfl) (fun h => ldc 2 Try.isAgg3 rfl (gvt h) rfl) ?_
          refine q1g rfl (gwt rfl) (fun h => neq (gvt h) rfl) ?_
          refine q1 (pk_and rfl rfl rfl) ?_
          refine q1 (mvb rfl) ?_
          refine q1g rfl (gwt rfl) (fun h => mvi rfl) ?_
          refine q1g rfl (gwt rfl) (fun h => lss (gvt h) rfl) ?_
          refine q1g rfl (gwt rfl) (fun h => mvb (gvt h)) ?_
          refine q1g rfl (ggf rfl) (fun h => fa fa79_0 rfl) ?_
          refine q1g rfl (ggf rfl) (fun h => lda 2 Try.isAgg37 Try.sizeOf37 rfl (gvt h) (encR_hd _) rfl) ?_
          refine q1g rfl (ggf rfl) (fun h => mvs rfl) ?_
          refine q1g rfl (ggf rfl) (fun h => mvi rfl) ?_
          refine q1g rfl (ggf rfl) (fun h => isp (b := pb p) (o := po p) sl74 (hl.hp (i := v.toNat) (by (have := hvb; simp at h; omega))) (gvt h) (gvt h) (by simp at h; omega) (by (have := hvb; simp at h; omega))) ?_
          refine q1g rfl (ggf rfl) (fun h => fa fa79_0 (gvt h)) ?_
          refine q1g rfl (ggf rfl) (fun h => ldam (vs := encH (C.getD v.toNat rz).hd) Try.isAgg37 Try.sizeOf37 (gvt h) rfl (fun w' hw => mem_part 0 125 (hl.memP (i := v.toNat) (by (have := hvb; simp at h; omega)) hw.below))) ?_
          refine q1g rfl (ggf rfl) (fun h => cl hb30 rfl (mc (gvt h) (mc (gvt h) mn)) (fun w hw => rlater_calls _ _ w)) ?_
          refine q1g rfl (gwt rfl) (fun h => pk_or (gvt h) rfl (gva h)) ?_
          refine q1 (pk_and rfl rfl rfl) ?_
          refine qnil ?_
          refine nthen ?_
          refine cif rfl (fun h6 => ?_) (fun h6 => ?_)
          · have hV2 := hV.yes (by omega) he h6
            refine creg ?_
            refine l1 (mvi rfl) ?_
            refine l1 (asg rfl) ?_
            refine lnil ?_
            refine nblkN ?_
            refine nthen ?_
            refine creg ?_
            refine l1 (mvi rfl) ?_
            first | refine l1 (addn rfl rfl (ri (by omega) (by omega))) ?_ | refine l1 (add rfl rfl) ?_
            refine l1 (asgi rfl) ?_
            refine lnil ?_
            exact nI (i + 1, _, _, _) ⟨(by show i + 1 ≤ n; omega), hA2, hK2, hV2⟩ (by show n - (i + 1) < n - i; omega) ⟨rfl, rfl, rfl, rfl, rfl, rfl, rfl, rfl, trivial⟩ (List.Sublist.cons_cons _ (List.Sublist.cons_cons _ (List.Sublist.cons _ (List.Sublist.refl _))))
          · have hV2 := hV.no (by omega) he h6
            refine cskip ?_
            refine nblkN ?_
            refine nthen ?_
            refine creg ?_
            refine l1 (mvi rfl) ?_
            first | refine l1 (addn rfl rfl (ri (by omega) (by omega))) ?_ | refine l1 (add rfl rfl) ?_
            refine l1 (asgi rfl) ?_
            refine lnil ?_
            exact nI (i + 1, _, _, _) ⟨(by show i + 1 ≤ n; omega), hA2, hK2, hV2⟩ (by show n - (i + 1) < n - i; omega) ⟨rfl, rfl, rfl, rfl, rfl, rfl, rfl, rfl, trivial⟩ (List.Sublist.cons_cons _ (List.Sublist.cons_cons _ (List.Sublist.cons _ (List.Sublist.refl _))))
      · have hA2 := hA.no (by omega) he h3
        refine cskip ?_
        refine nthen ?_
        refine cseq ?_
        refine cseq ?_
        refine cregq mo (by kernel_rfl) ?_
        refine q1 (fa fa79_1 rfl) ?_
        refine q1 (ldc 2 Try.isAgg4 rfl rfl rfl) ?_
        refine q1 (mvb rfl) ?_
        refine q1g rfl (gwt rfl) (fun h => mvi rfl) ?_
        refine q1g rfl (gwt rfl) (fun h => lss (gvt h) rfl) ?_
        refine q1g rfl (gwt rfl) (fun h => mvb (gvt h)) ?_
        refine q1g rfl (ggf rfl) (fun h => fa fa79_0 rfl) ?_
        refine q1g rfl (ggf rfl) (fun h => lda 2 Try.isAgg37 Try.sizeOf37 rfl (gvt h) (encR_hd _) rfl) ?_
        refine q1g rfl (ggf rfl) (fun h => mvs rfl) ?_
        refine q1g rfl (ggf rfl) (fun h => mvi rfl) ?_
        refine q1g rfl (ggf rfl) (fun h => isp (b := pb p) (o := po p) sl74 (hl.hp (i := k.toNat) (by (have := hkb; simp at h; omega))) (gvt h) (gvt h) (by simp at h; omega) (by (have := hkb; simp at h; omega))) ?_
        refine q1g rfl (ggf rfl) (fun h => fa fa79_0 (gvt h)) ?_
        refine q1g rfl (ggf rfl) (fun h => ldam (vs := encH (C.getD k.toNat rz).hd) Try.isAgg37 Try.sizeOf37 (gvt h) rfl (fun w' hw => mem_part 0 125 (hl.memP (i := k.toNat) (by (have := hkb; simp at h; omega)) hw.below))) ?_
        refine q1g rfl (ggf rfl) (fun h => cl hb30 rfl (mc (gvt h) (mc (gvt h) mn)) (fun w hw => rlater_calls _ _ w)) ?_
        refine q1g rfl (gwt rfl) (fun h => pk_or (gvt h) rfl (gva h)) ?_
        refine q1 (pk_and rfl rfl rfl) ?_
        refine qnil ?_
        refine nthen ?_
        refine cif rfl (fun h7 => ?_) (fun h7 => ?_)
        · have hK2 := hK.yes (by omega) he h7
          refine creg ?_
          refine l1 (mvi rfl) ?_
          refine l1 (asg rfl) ?_
          refine lnil ?_
          refine nthen ?_
          refine cseq ?_
          refine cregq mo (by kernel_rfl) ?_
          refine q1 (fa fa79_1 rfl) ?_
          refine q1 (ldc 2 Try.isAgg4 rfl rfl rfl) ?_
          refine q1 (mvb rfl) ?_
          refine q1g rfl (gwt rfl) (fun h => fa fa79_2 rfl) ?_
          refine q1g rfl (gwt rfl) (fun h => fa fa77_0 (gvt h)) ?_
          refine q1g rfl (gwt rfl) (fun h => ldc 2 Try.isAgg3 rfl (gvt h) rfl) ?_
          refine q1g rfl (gwt rfl) (fun h => neq (gvt h) rfl) ?_
          refine q1 (pk_and rfl rfl rfl) ?_
          refine q1 (mvb rfl) ?_
          refine q1g rfl (gwt rfl) (fun h => mvi rfl) ?_
          refine q1g rfl (gwt rfl) (fun h => lss (gvt h) rfl) ?_
          refine q1g rfl (gwt rfl) (fun h => mvb (gvt h)) ?_
          refine q1g rfl (ggf rfl) (fun h => fa fa79_0 rfl) ?_
          refine q1g rfl (ggf rfl) (fun h => lda 2 Try.isAgg37 Try.sizeOf37 rfl (gvt h) (encR_hd _) rfl) ?_
          refine q1g rfl (ggf rfl) (fun h => mvs rfl) ?_
          refine q1g rfl (ggf rfl) (fun h => mvi rfl) ?_
          refine q1g rfl (ggf rfl) (fun h => isp (b := pb p) (o := po p) sl74 (hl.hp (i := v.toNat) (by (have := hvb; simp at h; omega))) (gvt h) (gvt h) (by simp at h; omega) (by (have := hvb; simp at h; omega))) ?_
          refine q1g rfl (ggf rfl) (fun h => fa fa79_0 (gvt h)) ?_
          refine q1g rfl (ggf rfl) (fun h => ldam (vs := encH (C.getD v.toNat rz).hd) Try.isAgg37 Try.sizeOf37 (gvt h) rfl (fun w' hw => mem_part 0 125 (hl.memP (i := v.toNat) (by (have := hvb; simp at h; omega)) hw.below))) ?_
          refine q1g rfl (ggf rfl) (fun h => cl hb30 rfl (mc (gvt h) (mc (gvt h) mn)) (fun w hw => rlater_calls _ _ w)) ?_
          refine q1g rfl (gwt rfl) (fun h => pk_or (gvt h) rfl (gva h)) ?_
          refine q1 (pk_and rfl rfl rfl) ?_
          refine qnil ?_
          refine nthen ?_
          refine cif rfl (fun h8 => ?_) (fun h8 => ?_)
          · have hV2 := hV.yes (by omega) he h8
            refine creg ?_
            refine l1 (mvi rfl) ?_
            refine l1 (asg rfl) ?_
            refine lnil ?_
            refine nblkN ?_
            refine nthen ?_
            refine creg ?_
            refine l1 (mvi rfl) ?_
            first | refine l1 (addn rfl rfl (ri (by omega) (by omega))) ?_ | refine l1 (add rfl rfl) ?_
            refine l1 (asgi rfl) ?_
            refine lnil ?_
            exact nI (i + 1, _, _, _) ⟨(by show i + 1 ≤ n; omega), hA2, hK2, hV2⟩ (by show n - (i + 1) < n - i; omega) ⟨rfl, rfl, rfl, rfl, rfl, rfl, rfl, rfl, trivial⟩ (List.Sublist.cons_cons _ (List.Sublist.cons_cons _ (List.Sublist.cons _ (List.Sublist.refl _))))
          · have hV2 := hV.no (by omega) he h8
            refine cskip ?_
            refine nblkN ?_
            refine nthen ?_
            refine creg ?_
            refine l1 (mvi rfl) ?_
            first | refine l1 (addn rfl rfl (ri (by omega) (by omega))) ?_ | refine l1 (add rfl rfl) ?_
            refine l1 (asgi rfl) ?_
            refine lnil ?_
            exact nI (i + 1, _, _, _) ⟨(by show i + 1 ≤ n; omega), hA2, hK2, hV2⟩ (by show n - (i + 1) < n - i; omega) ⟨rfl, rfl, rfl, rfl, rfl, rfl, rfl, rfl, trivial⟩ (List.Sublist.cons_cons _ (List.Sublist.cons_cons _ (List.Sublist.cons _ (List.Sublist.refl _))))
        · have hK2 := hK.no (by omega) he h7
          refine cskip ?_
          refine nthen ?_
          refine cseq ?_
          refine cregq mo (by kernel_rfl) ?_
          refine q1 (fa fa79_1 rfl) ?_
          refine q1 (ldc 2 Try.isAgg4 rfl rfl rfl) ?_
          refine q1 (mvb rfl) ?_
          refine q1g rfl (gwt rfl) (fun h => fa fa79_2 rfl) ?_
          refine q1g rfl (gwt rfl) (fun h => fa fa77_0 (gvt h)) ?_
          refine q1g rfl (gwt rfl) (fun h => ldc 2 Try.isAgg3 rfl (gvt h) rfl) ?_
          refine q1g rfl (gwt rfl) (fun h => neq (gvt h) rfl) ?_
          refine q1 (pk_and rfl rfl rfl) ?_
          refine q1 (mvb rfl) ?_
          refine q1g rfl (gwt rfl) (fun h => mvi rfl) ?_
          refine q1g rfl (gwt rfl) (fun h => lss (gvt h) rfl) ?_
          refine q1g rfl (gwt rfl) (fun h => mvb (gvt h)) ?_
          refine q1g rfl (ggf rfl) (fun h => fa fa79_0 rfl) ?_
          refine q1g rfl (ggf rfl) (fun h => lda 2 Try.isAgg37 Try.sizeOf37 rfl (gvt h) (encR_hd _) rfl) ?_
          refine q1g rfl (ggf rfl) (fun h => mvs rfl) ?_
          refine q1g rfl (ggf rfl) (fun h => mvi rfl) ?_
          refine q1g rfl (ggf rfl) (fun h => isp (b := pb p) (o := po p) sl74 (hl.hp (i := v.toNat) (by (have := hvb; simp at h; omega))) (gvt h) (gvt h) (by simp at h; omega) (by (have := hvb; simp at h; omega))) ?_
          refine q1g rfl (ggf rfl) (fun h => fa fa79_0 (gvt h)) ?_
          refine q1g rfl (ggf rfl) (fun h => ldam (vs := encH (C.getD v.toNat rz).hd) Try.isAgg37 Try.sizeOf37 (gvt h) rfl (fun w' hw => mem_part 0 125 (hl.memP (i := v.toNat) (by (have := hvb; simp at h; omega)) hw.below))) ?_
          refine q1g rfl (ggf rfl) (fun h => cl hb30 rfl (mc (gvt h) (mc (gvt h) mn)) (fun w hw => rlater_calls _ _ w)) ?_
          refine q1g rfl (gwt rfl) (fun h => pk_or (gvt h) rfl (gva h)) ?_
          refine q1 (pk_and rfl rfl rfl) ?_
          refine qnil ?_
          refine nthen ?_
          refine cif rfl (fun h9 => ?_) (fun h9 => ?_)
          · have hV2 := hV.yes (by omega) he h9
            refine creg ?_
            refine l1 (mvi rfl) ?_
            refine l1 (asg rfl) ?_
            refine lnil ?_
            refine nblkN ?_
            refine nthen ?_
            refine creg ?_
            refine l1 (mvi rfl) ?_
            first | refine l1 (addn rfl rfl (ri (by omega) (by omega))) ?_ | refine l1 (add rfl rfl) ?_
            refine l1 (asgi rfl) ?_
            refine lnil ?_
            exact nI (i + 1, _, _, _) ⟨(by show i + 1 ≤ n; omega), hA2, hK2, hV2⟩ (by show n - (i + 1) < n - i; omega) ⟨rfl, rfl, rfl, rfl, rfl, rfl, rfl, rfl, trivial⟩ (List.Sublist.cons_cons _ (List.Sublist.cons_cons _ (List.Sublist.cons _ (List.Sublist.refl _))))
          · have hV2 := hV.no (by omega) he h9
            refine cskip ?_
            refine nblkN ?_
            refine nthen ?_
            refine creg ?_
            refine l1 (mvi rfl) ?_
            first | refine l1 (addn rfl rfl (ri (by omega) (by omega))) ?_ | refine l1 (add rfl rfl) ?_
            refine l1 (asgi rfl) ?_
            refine lnil ?_
            exact nI (i + 1, _, _, _) ⟨(by show i + 1 ≤ n; omega), hA2, hK2, hV2⟩ (by show n - (i + 1) < n - i; omega) ⟨rfl, rfl, rfl, rfl, rfl, rfl, rfl, rfl, trivial⟩ (List.Sublist.cons_cons _ (List.Sublist.cons_cons _ (List.Sublist.cons _ (List.Sublist.refl _))))
  · have hin : i = C.length := by (have := df h1; omega)
    have eA := hA.end hin
    have eK := hK.end hin
    have eV := hV.end hin
    refine cexit ?_
    refine nthenE ?_
    refine nIE ?_
    refine nblkE ?_
    refine nthen ?_
    refine cseq ?_
    refine cseq ?_
    refine creg ?_
    refine l1 (mvi rfl) ?_
    refine l1 (lss rfl rfl) ?_
    refine lnil ?_
    refine nthen ?_
    refine cif rfl (fun h10 => ?_) (fun h10 => ?_)
    · rw [oI_none (tok := tok) (C := C) (eA.elim (fun h => h.2) (fun ⟨x, h1, _⟩ => absurd (dt h10) (by omega)))]
      refine cseq ?_
      refine creg ?_
      refine l1 (bld0 bk83z2) ?_
      refine lstw 1 rfl rfl rfl Try.sizeOf83 rfl rfl rfl ?_
      refine l1 (asgb rfl) ?_
      refine lnil ?_
      refine nthen ?_
      refine cret ?_
      refine nthenR ?_
      exact fin (rv2 rfl (rvc 1 Try.isAgg83 Try.sizeOf83 rfl rfl rfl rfl) (rvt rfl))
    · obtain ⟨xa, rfl, hxa, hAe⟩ : ∃ x : Nat, a = (x : Int) ∧ x < C.length ∧ latR anyR (ofRows tok C) = (C.getD x rz, true) := eA.elim (fun h => absurd h.1 (by (have := df h10; omega))) id
      obtain ⟨b, o, hp, hbl, hm⟩ := hl.at (i := xa) (by omega)
      rw [oI_some (tok := tok) (C := C) (by rw [hAe])]
      refine cskip ?_
      refine nthen ?_
      refine cseq ?_
      refine cregE1 (Eff.mk 12 11 83 [.int .u8 0, .int .u8 0, .int .u8 0, .int .u8 0, .int .u8 0, .int .u8 0, .int .u8 0, .int .u8 0, .int .u8 0, .int .u8 0, .int .u8 0, .int .u8 0, .int .u8 0, .int .u8 0, .int .u8 0, .int .u8 0, .int .i64 0, .int .u64 0, .int .u8 0, .int .u8 0, .int .u8 0, .int .u8 0, .int .u8 0, .int .u8 0, .int .u8 0, .int .u8 0, .int .u8 0, .int .u8 0, .int .u8 0, .int .u8 0, .int .u8 0, .int .u8 0, .int .u8 0, .int .u8 0, .int .u8 0, .int .u8 0, .int .u8 0, .int .u8 0, .int .u8 0, .int .u8 0, .int .u8 0, .int .u8 0, .int .u8 0, .int .u8 0, .int .u8 0, .int .u8 0, .int .u8 0, .int .u8 0, .int .u8 0, .int .u8 0, .int .i64 0, .bool false, .int .u64 0, .int .u8 0, .int .u8 0, .int .u8 0, .int .u8 0, .int .u8 0, .int .u8 0, .int .u8 0, .int .u8 0, .int .u8 0, .int .u8 0, .int .u8 0, .int .u8 0, .int .u8 0, .int .u8 0, .int .u8 0, .int .u8 0, .slice none 0 0, .int .u64 0, .int .u64 0, .int .u64 0, .int .u64 0, .int .u64 0, .int .u64 0, .int .u8 0, .int .u8 0, .int .u8 0, .int .u8 0, .int .u8 0, .int .u8 0, .int .u8 0, .int .u8 0, .int .u8 0, .int .u8 0, .int .u8 0, .int .u8 0, .int .u8 0, .int .u8 0, .int .u8 0, .int .u8 0, .int .u8 0, .int .u8 0, .int .u8 0, .int .u8 0, .int .u8 0, .int .u8 0, .int .u8 0, .int .u8 0, .int .u8 0, .int .u8 0, .int .u8 0, .int .u8 0, .int .u8 0, .int .u8 0, .int .u8 0, .int .u8 0, .int .i64 0, .int .u8 0, .int .u8 0, .int .u8 0, .int .u8 0, .int .u8 0, .int .u8 0, .int .u8 0, .int .u8 0, .int .u8 0, .int .u8 0, .int .u8 0, .int .u8 0, .int .u8 0, .int .u8 0, .int .u8 0, .int .u8 0, .int .u8 0, .int .u8 0, .int .u8 0, .int .u8 0, .int .u8 0, .int .u8 0, .int .u8 0, .int .u8 0, .int .u8 0, .int .u8 0, .int .u8 0, .int .u8 0, .int .u8 0, .int .u8 0, .int .u8 0, .int .u8 0, .bool false, .bool false, .string ByteArray.empty, .slice none 0 0, .string ByteArray.empty] 13 (.tmp 94) (encI ⟨tok, (C.getD xa rz).hd, (C.getD xa rz).known, false, ByteArray.empty, none, 0, 0, fun _ => ByteArray.empty, ByteArray.empty⟩)) mo (by kernel_rfl) (by kernel_rfl) ⟨⟨_, _, _, rfl⟩, ⟨_, _, _, rfl, af_any (by kernel_rfl)⟩, ⟨_, Try.zeroValue83, rfl⟩, Try.sizeOf83, rfl, oneA rfl⟩ (by kernel_rfl) (by kernel_rfl) (by kernel_rfl) (by kernel_rfl) rfl ?_
      refine t1 rfl (fun T => ldw 0 Try.isAgg34 Try.sizeOf34 rfl rfl rfl) ?_
      refine t1 rfl (fun T => mvs rfl) ?_
      refine t1 rfl (fun T => mvi rfl) ?_
      refine t1 rfl (fun T => isp sl74 hp rfl rfl (by omega) (by omega)) ?_
      refine t1 rfl (fun T => fa fa79_0 rfl) ?_
      refine t1 rfl (fun T => ldam (vs := encH (C.getD xa rz).hd) Try.isAgg37 Try.sizeOf37 rfl rfl (fun w' hw => mem_part 0 125 ((hm xa (by omega)).kept hw.below hbl))) ?_
      refine t1 rfl (fun T => mvs rfl) ?_
      refine t1 rfl (fun T => mvi rfl) ?_
      refine t1 rfl (fun T => isp sl74 hp rfl rfl (by omega) (by omega)) ?_
      refine t1 rfl (fun T => fa fa79_1 rfl) ?_
      refine t1 rfl (fun T => ldm (v := .bool (C.getD xa rz).known) Try.isAgg4 rfl (fun w' hw => ((hm xa (by omega)).kept hw.below hbl).at (i := 125) rfl)) ?_
      refine t1 rfl (fun T => bldk (zs := encI ⟨tok, (C.getD xa rz).hd, (C.getD xa rz).known, false, ByteArray.empty, none, 0, 0, fun _ => ByteArray.empty, ByteArray.empty⟩) rfl (bk83b _ _ _)) ?_
      refine te 0 rfl rfl ?_
      refine ts 0 rfl rfl rfl ?_
      refine tnil ?_
      intro b4
      refine nthen ?_
      refine cseq ?_
      refine cseq ?_
      refine creg ?_
      refine l1 (mvi rfl) ?_
      refine l1 (geq rfl rfl) ?_
      refine lnil ?_
      refine nthen ?_
      refine cif rfl (fun h11 => ?_) (fun h11 => ?_)
      · obtain ⟨xk, rfl, hxk, hKe⟩ : ∃ x : Nat, k = (x : Int) ∧ x < C.length ∧ latR knownR (ofRows tok C) = (C.getD x rz, true) := eK.elim (fun h => absurd h.1 (by (have := dt h11; omega))) id
        refine creg ?_
        refine l1 (mvs rfl) ?_
        refine l1 (mvi rfl) ?_
        refine l1 (isp sl74 hp rfl rfl (by omega) (by omega)) ?_
        refine l1 (fa fa79_2 rfl) ?_
        refine l1 (fa fa77_1 rfl) ?_
        refine l1 (ldm (v := .string (C.getD xk rz).ch.name) Try.isAgg9 rfl (fun w' hw => ((hm xk (by omega)).kept hw.below hbl).at (i := 127) rfl)) ?_
        refine l1 (fa fa83_4 rfl) ?_
        refine lstt 2 rfl rfl rfl Try.sizeOf9 (lb rfl) rfl ?_
        refine lnil ?_
        refine nthen ?_
        refine cseq ?_
        refine cseq ?_
        refine creg ?_
        refine l1 (mvi rfl) ?_
        refine l1 (geq rfl rfl) ?_
        refine l1 (mvb rfl) ?_
        refine l1g rfl (gwt rfl) (fun h => mvs rfl) ?_
        refine l1g rfl (gwt rfl) (fun h => mvi rfl) ?_
        refine l1g rfl (gwt rfl) (fun h => isp sl74 hp (gvt h) (gvt h) (by simp at h; omega) (by (have := hV.lt (by omega); simp at h; omega))) ?_
        refine l1g rfl (gwt rfl) (fun h => fa fa79_2 (gvt h)) ?_
        refine l1g rfl (gwt rfl) (fun h => fa fa77_0 (gvt h)) ?_
        refine l1g rfl (gwt rfl) (fun h => ldm (v := .int .i64 (C.getD v.toNat rz).ch.op) Try.isAgg3 (gvt h) (fun w' hw => ((hm v.toNat (by (have := hV.lt (by omega); simp at h; omega))).kept hw.below hbl).at (i := 126) rfl)) ?_
        refine l1g rfl (gwt rfl) (fun h => eql (gvt h) rfl) ?_
        refine l1 (pk_and rfl rfl rfl) ?_
        refine lnil ?_
        refine nthen ?_
        refine cif rfl (fun h12 => ?_) (fun h12 => ?_)
        · have hvp : 0 ≤ v ∧ (C.getD v.toNat rz).ch.op = 1 := by (simpa using h12)
          obtain ⟨xv, rfl, hxv, hVe⟩ : ∃ x : Nat, v = (x : Int) ∧ x < C.length ∧ latR valuedR (ofRows tok C) = (C.getD x rz, true) := eV.elim (fun h => absurd h.1 (by (have := hvp.1; omega))) id
          rw [made_alive hAe hKe hVe hvp.2]
          refine cseq ?_
          refine creg ?_
          refine l1 (fa fa83_3 rfl) ?_
          refine lstb 2 rfl rfl rfl Try.sizeOf4 (lb rfl) rfl ?_
          refine lnil ?_
          refine nthen ?_
          refine cseq ?_
          refine creg ?_
          refine l1 (mvs rfl) ?_
          refine l1 (mvi rfl) ?_
          refine l1 (isp sl74 hp rfl rfl (by omega) (by omega)) ?_
          refine l1 (fa fa79_2 rfl) ?_
          refine l1 (fa fa77_3 rfl) ?_
          refine l1 (ldm (v := .string (C.getD xv rz).ch.value) Try.isAgg9 rfl (fun w' hw => ((hm xv (by omega)).kept hw.below hbl).at (i := 129) rfl)) ?_
          refine l1 (fa fa83_6 rfl) ?_
          refine lstt 2 rfl rfl rfl Try.sizeOf9 (lb rfl) rfl ?_
          refine lnil ?_
          refine nthen ?_
          refine creg ?_
          refine l1 (mvs rfl) ?_
          refine l1 (mvi rfl) ?_
          refine l1 (isp sl74 hp rfl rfl (by omega) (by omega)) ?_
          refine l1 (fa fa79_2 rfl) ?_
          refine l1 (fa fa77_2 rfl) ?_
          refine l1 (ldm (v := .slice (C.getD xk rz).ch.gp (C.getD xk rz).ch.gn (C.getD xk rz).ch.gc) Try.isAgg75 rfl (fun w' hw => ((hm xk (by omega)).kept hw.below hbl).at (i := 128) rfl)) ?_
          refine l1 (fa fa83_5 rfl) ?_
          refine lsts 2 rfl rfl rfl Try.sizeOf75 (lb rfl) rfl ?_
          refine lnil ?_
          refine nthen ?_
          refine cseq ?_
          refine creg ?_
          refine l1 (ldw 2 Try.isAgg83 Try.sizeOf83 rfl rfl rfl) ?_
          refine lstw 1 rfl rfl rfl Try.sizeOf83 rfl rfl rfl ?_
          refine l1 (asgb rfl) ?_
          refine lnil ?_
          refine nthen ?_
          refine cret ?_
          exact fin (rv2 rfl (rvc 1 Try.isAgg83 Try.sizeOf83 rfl rfl rfl rfl) (rvt rfl))
        · have hdd : ((latR valuedR (ofRows tok C)).2 && decide ((latR valuedR (ofRows tok C)).1.ch.op = 1)) = false := eV.elim (fun h => by rw [h.2]; rfl) (fun ⟨x, h1, _, h3⟩ => by (rw [h3]; subst h1; have := h12; simpa using this))
          rw [made_dead hAe hdd, hKe]
          refine cskip ?_
          refine nthen ?_
          refine cseq ?_
          refine creg ?_
          refine l1 (ldw 2 Try.isAgg83 Try.sizeOf83 rfl rfl rfl) ?_
          refine lstw 1 rfl rfl rfl Try.sizeOf83 rfl rfl rfl ?_
          refine l1 (asgb rfl) ?_
          refine lnil ?_
          refine nthen ?_
          refine cret ?_
          exact fin (rv2 rfl (rvc 1 Try.isAgg83 Try.sizeOf83 rfl rfl rfl rfl) (rvt rfl))
      · have hKn : (latR knownR (ofRows tok C)).2 = false := eK.elim (fun h => h.2) (fun ⟨x, h1, _⟩ => absurd (df h11) (by omega))
        have hVn := val_known hKn
        have hv0 : v < 0 := eV.elim (fun h => h.1) (fun ⟨x, _, _, h3⟩ => by rw [h3] at hVn; cases hVn)
        refine cskip ?_
        refine nthen ?_
        refine cseq ?_
        refine cseq ?_
        refine creg ?_
        refine l1 (mvi rfl) ?_
        refine l1 (geq rfl rfl) ?_
        refine l1 (mvb rfl) ?_
        refine l1g rfl (gwt rfl) (fun h => mvs rfl) ?_
        refine l1g rfl (gwt rfl) (fun h => mvi rfl) ?_
        refine l1g rfl (gwt rfl) (fun h => isp sl74 hp (gvt h) (gvt h) (by simp at h; omega) (by (have := hV.lt (by omega); simp at h; omega))) ?_
        refine l1g rfl (gwt rfl) (fun h => fa fa79_2 (gvt h)) ?_
        refine l1g rfl (gwt rfl) (fun h => fa fa77_0 (gvt h)) ?_
        refine l1g rfl (gwt rfl) (fun h => ldm (v := .int .i64 (C.getD v.toNat rz).ch.op) Try.isAgg3 (gvt h) (fun w' hw => ((hm v.toNat (by (have := hV.lt (by omega); simp at h; omega))).kept hw.below hbl).at (i := 126) rfl)) ?_
        refine l1g rfl (gwt rfl) (fun h => eql (gvt h) rfl) ?_
        refine l1 (pk_and rfl rfl rfl) ?_
        refine lnil ?_
        refine nthen ?_
        refine ciff (bf rfl (by rw [decide_eq_false (by omega)]; rfl)) ?_
        refine cskip ?_
        refine nthen ?_
        refine cseq ?_
        refine creg ?_
        refine l1 (ldw 2 Try.isAgg83 Try.sizeOf83 rfl rfl rfl) ?_
        refine lstw 1 rfl rfl rfl Try.sizeOf83 rfl rfl rfl ?_
        refine l1 (asgb rfl) ?_
        refine lnil ?_
        refine nthen ?_
        refine cret ?_
        rw [made_dead hAe (by rw [hVn]; rfl), lat_rz hKn]; exact fin (rv2 rfl (rvc 1 Try.isAgg83 Try.sizeOf83 rfl rfl rfl rfl) (rvt rfl))
end Go.Proofs.Ytkdbjhlkahkobaa
/- walks, printed by a program of ours -/
namespace Go.Proofs.Ytkdbjhlkahkobaa
open Jal Go.RowKit
set_option maxRecDepth 100000
theorem bk77c (i : It) : ∀ w, (Instr.build 77 #[(1, .string i.name), (2, .slice i.gp i.gn i.gc), (3, .string i.value)]).run Try.prog w = .ok (.agg (encCh (chI i)).toArray) w := fun w => by kernel_rfl

set_option maxHeartbeats 2000000 in
theorem rsameI_calls (a b : It) (w : World) (ha : ItSat w a) (hb : ItSat w b) (ka : HdOk a.hd) (kb : HdOk b.hd) (hn : (a.gn : Int) ≤ 9223372036854775807) : Calls Try.prog 53 #[.agg (encI a).toArray, .agg (encI b).toArray] w (Ret (.bool (rsameI a b)) w) := by
  refine fn_calls (n := 56) Try.func53 rfl rfl (lb rfl) ?_
  refine cseq ?_
  refine creg ?_
  refine lbxa rfl (fun b1 => ?_)
  refine lbxa rfl (fun b2 => ?_)
  refine l1 (asg rfl) ?_
  refine lnil ?_
  refine nthen ?_
  refine cseq ?_
  refine creg ?_
  refine l1 (fa fa83_4 rfl) ?_
  refine l1 (ldc 0 Try.isAgg9 rfl rfl rfl) ?_
  refine l1 (fa fa83_5 rfl) ?_
  refine l1 (ldc 0 Try.isAgg75 rfl rfl rfl) ?_
  refine l1 (fa fa83_6 rfl) ?_
  refine l1 (ldc 0 Try.isAgg9 rfl rfl rfl) ?_
  refine l1 (bldk (zs := encCh (chI a)) rfl (bk77c a)) ?_
  refine lal (zs := encCh chz) Try.zeroValue77 rfl (fun b3 => ?_)
  refine lstw 2 rfl rfl rfl Try.sizeOf77 rfl rfl rfl ?_
  refine lnil ?_
  refine nthen ?_
  refine cseq ?_
  refine creg ?_
  refine l1 (fa fa83_4 rfl) ?_
  refine l1 (ldc 1 Try.isAgg9 rfl rfl rfl) ?_
  refine l1 (fa fa83_5 rfl) ?_
  refine l1 (ldc 1 Try.isAgg75 rfl rfl rfl) ?_
  refine l1 (fa fa83_6 rfl) ?_
  refine l1 (ldc 1 Try.isAgg9 rfl rfl rfl) ?_
  refine l1 (bldk (zs := encCh (chI b)) rfl (bk77c b)) ?_
  refine lal (zs := encCh chz) Try.zeroValue77 rfl (fun b4 => ?_)
  refine lstw 3 rfl rfl rfl Try.sizeOf77 rfl rfl rfl ?_
  refine lnil ?_
  refine nthen ?_
  refine cseq ?_
  refine cregH (fun x : List Ent => ⟨b1, encI a, 83⟩ :: ⟨b2, encI b, 83⟩ :: ⟨b3, encCh (chI a), 77⟩ :: ⟨b4, encCh (chI b), 77⟩ :: x) 36 mo rfl ?_
  refine hq1 0 rfl (by kernel_rfl) (by kernel_rfl) (by kernel_rfl) (fun c a w h => h) (.inl ⟨_, rfl⟩) (fun w hw => ⟨_, hw⟩) (fun T => fa fa83_0 rfl) ?_
  refine hq1 1 rfl (by kernel_rfl) (by kernel_rfl) (by kernel_rfl) (fun c a w h => h) (.inl ⟨_, rfl⟩) (fun w hw => ⟨_, hw⟩) (fun T => lda 0 Try.isAgg34 Try.sizeOf34 rfl rfl (encI_tok _) rfl) ?_
  refine hq1 2 rfl (by kernel_rfl) (by kernel_rfl) (by kernel_rfl) (fun c a w h => h) (.inl ⟨_, rfl⟩) (fun w hw => ⟨_, hw⟩) (fun T => fa fa83_0 rfl) ?_
  refine hq1 3 rfl (by kernel_rfl) (by kernel_rfl) (by kernel_rfl) (fun c a w h => h) (.inl ⟨_, rfl⟩) (fun w hw => ⟨_, hw⟩) (fun T => lda 1 Try.isAgg34 Try.sizeOf34 rfl rfl (encI_tok _) rfl) ?_
  refine hq1 4 rfl (by kernel_rfl) (by kernel_rfl) (by kernel_rfl) (fun c a w h => h) (.inl ⟨_, rfl⟩) (fun w hw => ⟨_, hw⟩) (fun T => eqla rfl rfl (fun w => eql34 _ _ w)) ?_
  refine hq1 5 rfl (by kernel_rfl) (by kernel_rfl) (by kernel_rfl) (fun c a w h => h) (.inr ⟨_, rfl⟩) (fun w hw => ⟨_, hw⟩) (fun T => mvb rfl) ?_
  refine hq1g 6 rfl rfl (gwt rfl) (by kernel_rfl) (by kernel_rfl) (by kernel_rfl) (fun c a w h => h) (.inl ⟨_, rfl⟩) (fun w hw => ⟨_, hw⟩) (fun h T => fa fa83_2 rfl) ?_
  refine hq1g 7 rfl rfl (gwt rfl) (by kernel_rfl) (by kernel_rfl) (by kernel_rfl) (fun c a w h => h) (.inl ⟨_, rfl⟩) (fun w hw => ⟨_, hw⟩) (fun h T => ldc 0 Try.isAgg4 rfl (gvt h) rfl) ?_
  refine hq1g 8 rfl rfl (gwt rfl) (by kernel_rfl) (by kernel_rfl) (by kernel_rfl) (fun c a w h => h) (.inl ⟨_, rfl⟩) (fun w hw => ⟨_, hw⟩) (fun h T => fa fa83_2 rfl) ?_
  refine hq1g 9 rfl rfl (gwt rfl) (by kernel_rfl) (by kernel_rfl) (by kernel_rfl) (fun c a w h => h) (.inl ⟨_, rfl⟩) (fun w hw => ⟨_, hw⟩) (fun h T => ldc 1 Try.isAgg4 rfl (gvt h) rfl) ?_
  refine hq1g 10 rfl rfl (gwt rfl) (by kernel_rfl) (by kernel_rfl) (by kernel_rfl) (fun c a w h => h) (.inl ⟨_, rfl⟩) (fun w hw => ⟨_, hw⟩) (fun h T => eqlb Try.underlying4 (gvt h) (gvt h)) ?_
  refine hq1k 11 rfl (by kernel_rfl) (by kernel_rfl) (by kernel_rfl) (fun c a w h => h) ⟨_, _, _, rfl⟩ (fun w hw => ⟨_, hw⟩) (fun T => pk_and rfl rfl rfl) ?_
  refine hq1 12 rfl (by kernel_rfl) (by kernel_rfl) (by kernel_rfl) (fun c a w h => h) (.inr ⟨_, rfl⟩) (fun w hw => ⟨_, hw⟩) (fun T => mvb rfl) ?_
  refine hq1g 13 rfl rfl (gwt rfl) (by kernel_rfl) (by kernel_rfl) (by kernel_rfl) (fun c a w h => h) (.inl ⟨_, rfl⟩) (fun w hw => ⟨_, hw⟩) (fun h T => fa fa83_3 rfl) ?_
  refine hq1g 14 rfl rfl (gwt rfl) (by kernel_rfl) (by kernel_rfl) (by kernel_rfl) (fun c a w h => h) (.inl ⟨_, rfl⟩) (fun w hw => ⟨_, hw⟩) (fun h T => ldc 0 Try.isAgg4 rfl (gvt h) rfl) ?_
  refine hq1g 15 rfl rfl (gwt rfl) (by kernel_rfl) (by kernel_rfl) (by kernel_rfl) (fun c a w h => h) (.inl ⟨_, rfl⟩) (fun w hw => ⟨_, hw⟩) (fun h T => fa fa83_3 rfl) ?_
  refine hq1g 16 rfl rfl (gwt rfl) (by kernel_rfl) (by kernel_rfl) (by kernel_rfl) (fun c a w h => h) (.inl ⟨_, rfl⟩) (fun w hw => ⟨_, hw⟩) (fun h T => ldc 1 Try.isAgg4 rfl (gvt h) rfl) ?_
  refine hq1g 17 rfl rfl (gwt rfl) (by kernel_rfl) (by kernel_rfl) (by kernel_rfl) (fun c a w h => h) (.inl ⟨_, rfl⟩) (fun w hw => ⟨_, hw⟩) (fun h T => eqlb Try.underlying4 (gvt h) (gvt h)) ?_
  refine hq1k 18 rfl (by kernel_rfl) (by kernel_rfl) (by kernel_rfl) (fun c a w h => h) ⟨_, _, _, rfl⟩ (fun w hw => ⟨_, hw⟩) (fun T => pk_and rfl rfl rfl) ?_
  refine hq1 19 rfl (by kernel_rfl) (by kernel_rfl) (by kernel_rfl) (fun c a w h => h) (.inr ⟨_, rfl⟩) (fun w hw => ⟨_, hw⟩) (fun T => mvb rfl) ?_
  refine hq1g 20 rfl rfl (gwt rfl) (by kernel_rfl) (by kernel_rfl) (by kernel_rfl) (fun c a w h => h) (.inl ⟨_, rfl⟩) (fun w hw => ⟨_, hw⟩) (fun h T => ldw 2 Try.isAgg77 Try.sizeOf77 rfl rfl rfl) ?_
  refine hq1g 21 rfl rfl (gwt rfl) (by kernel_rfl) (by kernel_rfl) (by kernel_rfl) (fun c a w h => h) (.inl ⟨_, rfl⟩) (fun w hw => ⟨_, hw⟩) (fun h T => ldw 3 Try.isAgg77 Try.sizeOf77 rfl rfl rfl) ?_
  refine he 22 (by kernel_rfl) rfl ?_
  refine l1g rfl (gwt rfl) (fun h => cl hb85 rfl (mc (gvt h) (mc (gvt h) mn)) (fun w hw => sameCh_calls (chI a) (chI b) w (Sl.keptS ha.g hw) (Sl.keptS hb.g hw) hn)) ?_
  refine hnil (fun w hw => ⟨_, hw⟩) ?_
  refine hq1k 23 rfl (by kernel_rfl) (by kernel_rfl) (by kernel_rfl) (fun c a w h => h) ⟨_, _, _, rfl⟩ (fun w hw => ⟨_, hw⟩) (fun T => pk_and rfl rfl rfl) ?_
  refine hq1 24 rfl (by kernel_rfl) (by kernel_rfl) (by kernel_rfl) (fun c a w h => h) (.inr ⟨_, rfl⟩) (fun w hw => ⟨_, hw⟩) (fun T => mvb rfl) ?_
  refine hq1g 25 rfl rfl (gwt rfl) (by kernel_rfl) (by kernel_rfl) (by kernel_rfl) (fun c a w h => h) (.inl ⟨_, rfl⟩) (fun w hw => ⟨_, hw⟩) (fun h T => fa fa83_1 rfl) ?_
  refine hq1g 26 rfl rfl (gwt rfl) (by kernel_rfl) (by kernel_rfl) (by kernel_rfl) (fun c a w h => h) (.inl ⟨_, rfl⟩) (fun w hw => ⟨_, hw⟩) (fun h T => lda 0 Try.isAgg37 Try.sizeOf37 rfl (gvt h) (encI_hd _) rfl) ?_
  refine hq1g 29 rfl rfl (gwt rfl) (by kernel_rfl) (by kernel_rfl) (by kernel_rfl) (fun c a w h => h) (.inl ⟨_, rfl⟩) (fun w hw => ⟨_, hw⟩) (fun h T => fa fa83_1 rfl) ?_
  refine hq1g 30 rfl rfl (gwt rfl) (by kernel_rfl) (by kernel_rfl) (by kernel_rfl) (fun c a w h => h) (.inl ⟨_, rfl⟩) (fun w hw => ⟨_, hw⟩) (fun h T => lda 1 Try.isAgg37 Try.sizeOf37 rfl (gvt h) (encI_hd _) rfl) ?_
  refine he 27 (by kernel_rfl) rfl ?_
  refine lclmg rfl (gwt rfl) hb88 rfl (fun h => (mc (gvt h) mn)) (fun h w' hw => hdby_calls a.hd w' (Sl.keptS ha.h hw) ka) ?_
  rintro v48 H48 k48
  refine hnil (fun w hw => ⟨_, hw⟩) ?_
  refine hem2 28 31 (by kernel_rfl) rfl rfl ?_ ?_
  · skip
    refine l1g rfl (gwt rfl) (fun h => cvbs (l := hdBy a.hd) (gvt h) (k48 h) (by first | exact (List.Sublist.cons _ (List.Sublist.cons _ (List.Sublist.cons _ (List.Sublist.cons _ (List.Sublist.refl _))))) | exact (List.Sublist.cons _ (List.Sublist.cons _ (List.Sublist.cons _ (List.Sublist.cons _ (List.sublist_append_left _ _))))) | exact (List.Sublist.cons _ (List.Sublist.cons _ (List.Sublist.cons _ (List.Sublist.cons _ (List.sublist_append_right _ _))))))) ?_
    refine hnil (fun w hw => ⟨_, hw⟩) ?_
    refine he 31 (by kernel_rfl) rfl ?_
    refine lclmg rfl (gwt rfl) hb88 rfl (fun h => (mc (gvt h) mn)) (fun h w' hw => hdby_calls b.hd w' (Sl.keptS hb.h hw) kb) ?_
    rintro v52 H52 k52
    refine hnil (fun w hw => ⟨_, hw⟩) ?_
    refine he 32 (by kernel_rfl) rfl ?_
    refine l1g rfl (gwt rfl) (fun h => cvbs (l := hdBy b.hd) (gvt h) (k52 h) (by first | exact (List.Sublist.cons _ (List.Sublist.cons _ (List.Sublist.cons _ (List.Sublist.cons _ (List.Sublist.refl _))))) | exact (List.Sublist.cons _ (List.Sublist.cons _ (List.Sublist.cons _ (List.Sublist.cons _ (List.sublist_append_left _ _))))) | exact (List.Sublist.cons _ (List.Sublist.cons _ (List.Sublist.cons _ (List.Sublist.cons _ (List.sublist_append_right _ _))))))) ?_
    refine hnil (fun w hw => ⟨_, hw⟩) ?_
    refine hq1g 33 rfl rfl (gwt rfl) (by kernel_rfl) (by kernel_rfl) (by kernel_rfl) (fun c a w h => h) (.inl ⟨_, rfl⟩) (fun w hw => ⟨_, hw⟩) (fun h T => eqls (gvt h) (gvt h)) ?_
    refine hq1k 34 rfl (by kernel_rfl) (by kernel_rfl) (by kernel_rfl) (fun c a w h => h) ⟨_, _, _, rfl⟩ (fun w hw => ⟨_, hw⟩) (fun T => pk_and rfl rfl rfl) ?_
    refine hq1 35 rfl (by kernel_rfl) (by kernel_rfl) (by kernel_rfl) (fun c a w h => h) (.inr ⟨_, rfl⟩) (fun w hw => ⟨_, hw⟩) (fun T => asg rfl) ?_
    refine hend (by kernel_rfl) ?_
    refine nthen ?_
    refine cret ?_
    exact fin1b rfl rfl rfl
  · skip
    refine lclmg rfl (gwt rfl) hb88 rfl (fun h => (mc (gvt h) mn)) (fun h w' hw => hdby_calls b.hd w' (Sl.keptS hb.h hw) kb) ?_
    rintro v52 H52 k52
    refine hnil (fun w hw => ⟨_, hw⟩) ?_
    refine hem2 28 32 (by kernel_rfl) rfl rfl ?_ ?_
    · skip
      refine l1g rfl (gwt rfl) (fun h => cvbs (l := hdBy a.hd) (gvt h) (k48 h) (by first | exact (List.Sublist.cons _ (List.Sublist.cons _ (List.Sublist.cons _ (List.Sublist.cons _ (List.Sublist.refl _))))) | exact (List.Sublist.cons _ (List.Sublist.cons _ (List.Sublist.cons _ (List.Sublist.cons _ (List.sublist_append_left _ _))))) | exact (List.Sublist.cons _ (List.Sublist.cons _ (List.Sublist.cons _ (List.Sublist.cons _ (List.sublist_append_right _ _))))))) ?_
      refine hnil (fun w hw => ⟨_, hw⟩) ?_
      refine he 32 (by kernel_rfl) rfl ?_
      refine l1g rfl (gwt rfl) (fun h => cvbs (l := hdBy b.hd) (gvt h) (k52 h) (by first | exact (List.Sublist.cons _ (List.Sublist.cons _ (List.Sublist.cons _ (List.Sublist.cons _ (List.Sublist.refl _))))) | exact (List.Sublist.cons _ (List.Sublist.cons _ (List.Sublist.cons _ (List.Sublist.cons _ (List.sublist_append_left _ _))))) | exact (List.Sublist.cons _ (List.Sublist.cons _ (List.Sublist.cons _ (List.Sublist.cons _ (List.sublist_append_right _ _))))))) ?_
      refine hnil (fun w hw => ⟨_, hw⟩) ?_
      refine hq1g 33 rfl rfl (gwt rfl) (by kernel_rfl) (by kernel_rfl) (by kernel_rfl) (fun c a w h => h) (.inl ⟨_, rfl⟩) (fun w hw => ⟨_, hw⟩) (fun h T => eqls (gvt h) (gvt h)) ?_
      refine hq1k 34 rfl (by kernel_rfl) (by kernel_rfl) (by kernel_rfl) (fun c a w h => h) ⟨_, _, _, rfl⟩ (fun w hw => ⟨_, hw⟩) (fun T => pk_and rfl rfl rfl) ?_
      refine hq1 35 rfl (by kernel_rfl) (by kernel_rfl) (by kernel_rfl) (fun c a w h => h) (.inr ⟨_, rfl⟩) (fun w hw => ⟨_, hw⟩) (fun T => asg rfl) ?_
      refine hend (by kernel_rfl) ?_
      refine nthen ?_
      refine cret ?_
      exact fin1b rfl rfl rfl
    · skip
      refine l1g rfl (gwt rfl) (fun h => cvbs (l := hdBy b.hd) (gvt h) (k52 h) (by first | exact (List.Sublist.cons _ (List.Sublist.cons _ (List.Sublist.cons _ (List.Sublist.cons _ (List.Sublist.refl _))))) | exact (List.Sublist.cons _ (List.Sublist.cons _ (List.Sublist.cons _ (List.Sublist.cons _ (List.sublist_append_left _ _))))) | exact (List.Sublist.cons _ (List.Sublist.cons _ (List.Sublist.cons _ (List.Sublist.cons _ (List.sublist_append_right _ _))))))) ?_
      refine hnil (fun w hw => ⟨_, hw⟩) ?_
      refine he 28 (by kernel_rfl) rfl ?_
      refine l1g rfl (gwt rfl) (fun h => cvbs (l := hdBy a.hd) (gvt h) (k48 h) (by first | exact (List.Sublist.cons _ (List.Sublist.cons _ (List.Sublist.cons _ (List.Sublist.cons _ (List.Sublist.refl _))))) | exact (List.Sublist.cons _ (List.Sublist.cons _ (List.Sublist.cons _ (List.Sublist.cons _ (List.sublist_append_left _ _))))) | exact (List.Sublist.cons _ (List.Sublist.cons _ (List.Sublist.cons _ (List.Sublist.cons _ (List.sublist_append_right _ _))))))) ?_
      refine hnil (fun w hw => ⟨_, hw⟩) ?_
      refine hq1g 33 rfl rfl (gwt rfl) (by kernel_rfl) (by kernel_rfl) (by kernel_rfl) (fun c a w h => h) (.inl ⟨_, rfl⟩) (fun w hw => ⟨_, hw⟩) (fun h T => eqls (gvt h) (gvt h)) ?_
      refine hq1k 34 rfl (by kernel_rfl) (by kernel_rfl) (by kernel_rfl) (fun c a w h => h) ⟨_, _, _, rfl⟩ (fun w hw => ⟨_, hw⟩) (fun T => pk_and rfl rfl rfl) ?_
      refine hq1 35 rfl (by kernel_rfl) (by kernel_rfl) (by kernel_rfl) (fun c a w h => h) (.inr ⟨_, rfl⟩) (fun w hw => ⟨_, hw⟩) (fun T => asg rfl) ?_
      refine hend (by kernel_rfl) ?_
      refine nthen ?_
      refine cret ?_
      exact fin1b rfl rfl rfl
end Go.Proofs.Ytkdbjhlkahkobaa
/- walks, printed by a program of ours -/
namespace Go.Proofs.Ytkdbjhlkahkobaa
open Jal Go.RowKit
set_option maxRecDepth 100000
theorem lat_in2 {q : Rw → Bool} {L : List Rw} {Pr : Rw → Prop} (h0 : Pr rz) (h : ∀ r ∈ L, Pr r) : Pr (latR q L).1 := by
  rw [← getL_rows L]
  exact lat_all h0 (fun i hi => h _ (by rw [List.getD_eq_getElem?_getD, List.getElem?_eq_getElem hi]; exact List.getElem_mem hi))
theorem made_in {w : World} {tok : Nat → Int} {L : List Rw} (h : ∀ r ∈ L, RwIn w r) : ItSat w (madeI tok L) := by
  have h1 : HdIn w (latR anyR L).1.hd := lat_in2 (Pr := fun r => HdIn w r.hd) ⟨.inl rfl⟩ (fun r hr => (h r hr).h)
  have h2 : ChIn w (latR knownR L).1.ch := lat_in2 (Pr := fun r => ChIn w r.ch) ⟨.inl rfl⟩ (fun r hr => (h r hr).c)
  unfold madeI
  cases (latR valuedR L).2 && decide ((latR valuedR L).1.ch.op = 1) with
  | true => exact ⟨h1, h2⟩
  | false => exact ⟨h1, ⟨.inl rfl⟩⟩
theorem made_gn {tok : Nat → Int} {L : List Rw} {k : Nat} (h : ∀ r ∈ L, r.ch.gn ≤ k) : (madeI tok L).gn ≤ k := by
  have h2 : (latR knownR L).1.ch.gn ≤ k := lat_in2 (Pr := fun r => r.ch.gn ≤ k) (Nat.zero_le _) h
  unfold madeI
  cases (latR valuedR L).2 && decide ((latR valuedR L).1.ch.op = 1) with
  | true => exact h2
  | false => exact Nat.zero_le _
theorem ofRows_mem {tok : Nat → Int} {l : Nat → Rw} {n : Nat} {r : Rw} (h : r ∈ ofRows tok (counted l n)) : ∃ j, j < n ∧ r = l j := by
  obtain ⟨j, h1, h2, _⟩ := cnt_mem l n _ (List.mem_filter.1 h).1
  exact ⟨j, h1, h2⟩
theorem of_in {w : World} {tok : Nat → Int} {l : Nat → Rw} {n : Nat} (h : ∀ i, i < n → RwIn w (l i)) : ItSat w (ofI tok l n).1 := by
  unfold ofI
  cases decide (((ofRows tok (counted l n)).length : Int) = 0) with
  | true => exact ⟨⟨.inl rfl⟩, ⟨.inl rfl⟩⟩
  | false => exact made_in (fun r hr => by obtain ⟨j, h1, rfl⟩ := ofRows_mem hr; exact h j h1)
theorem of_gn {tok : Nat → Int} {l : Nat → Rw} {n k : Nat} (h : ∀ i, i < n → (l i).ch.gn ≤ k) : (ofI tok l n).1.gn ≤ k := by
  unfold ofI
  cases decide (((ofRows tok (counted l n)).length : Int) = 0) with
  | true => exact Nat.zero_le _
  | false => exact made_gn (fun r hr => by obtain ⟨j, h1, rfl⟩ := ofRows_mem hr; exact h j h1)
theorem coreI_gn {a b : It} (h : coreI a = coreI b) : a.gn = b.gn := show (coreI a).gn = (coreI b).gn by rw [h]
theorem coreI_tok {a b : It} (h : coreI a = coreI b) : a.tok = b.tok := show (coreI a).tok = (coreI b).tok by rw [h]
theorem of_guard {tok : Nat → Int} {l : Nat → Rw} {n : Nat} {I : It} (h : coreI I = coreI (ofI tok l n).1) :
    (((!((ofI tok l n).2 == (ofI tok l n).2)) || ((ofI tok l n).2 && !rsameI I (ofI tok l n).1)) || ((!(ofI tok l n).2) && (((I.known || I.alive) || !(I.name.toList == (ByteArray.mk #[]).toList)) || decide ((I.gn : Int) > 0)))) = false := by
  rw [rsame_core h]
  cases hx : (ofI tok l n).2 with
  | true => rfl
  | false =>
    obtain ⟨h1, h2, h3, h4, h5⟩ := coreI_f h
    have h6 := coreI_gn h
    rw [of_iz hx] at h2 h3 h4 h6
    rw [h2, h3, h4, h6]
    simp [iz]
theorem of_loop {tok tok2 : Nat → Int} {l : Nat → Rw} {n : Nat} {I J : It} (k : ∀ i, i < n → RwOk (l i)) (h : coreI I = coreI (ofI tok l n).1) (h2 : coreI J = coreI (ofI tok2 l n).1) {r : Rw} (kr : RwOk r) :
    ((!(formedR r == rformedR r)) || ((!(sameI I J == rsameI I J)) && (ofI tok l n).2)) = false := by
  rw [rformedR_eq kr]
  cases hx : (ofI tok l n).2 with
  | false => simp
  | true =>
    have := of_same (tok2 := tok2) k hx
    rw [rsame_re h, rsame_re2 h2, same_re h, same_re2 h2, this]
    simp

set_option maxHeartbeats 4000000 in
theorem itemof_law (w : World) (p : Option Addr) (n c : Nat) (l : Nat → Rw) (hn : (n : Int) ≤ 9223372036854775807) (hl : Sl w p n 130 (fun i => encR (l i))) (hx : ∀ i, i < n → RwIn w (l i)) (kx : ∀ i, i < n → RwOk (l i)) (tok : Nat → Int) : Calls Try.prog 15 #[.slice p n c, .agg (arr .u8 16 tok).toArray] w (Ret (.bool true) w) := by
  refine fn_calls (n := 110) Try.func15 rfl rfl (lb rfl) ?_
  refine cseq ?_
  refine creg ?_
  refine lbxa rfl (fun b1 => ?_)
  refine l1 (asg rfl) ?_
  refine lnil ?_
  refine nthen ?_
  refine cseq ?_
  refine cseq ?_
  refine creg ?_
  refine l1 (cl hb29 rfl mn (fun w hw => awake18_calls w)) ?_
  refine l1 (nt rfl) ?_
  refine l1 (mvb rfl) ?_
  refine l1g rfl (gwf rfl) (fun h => mvs rfl) ?_
  refine l1g rfl (gwf rfl) (fun h => cl hb48 rfl (mc (gvt h) (mc rfl mn)) (fun w hw => fewrows_calls w p n c l 40 hn (Sl.keptS hl hw) (fun i hi => (hx i hi).keptS hw) kx)) ?_
  refine l1g rfl (gwf rfl) (fun h => nt (gvt h)) ?_
  refine l1 (pk_or rfl rfl rfl) ?_
  refine lnil ?_
  refine nthen ?_
  refine cif rfl (fun h1 => ?_) (fun h1 => ?_)
  · skip
    refine cseq ?_
    refine creg ?_
    refine l1 (cl hb29 rfl mn (fun w hw => awake18_calls w)) ?_
    refine l1 (asg rfl) ?_
    refine lnil ?_
    refine nthen ?_
    refine cret ?_
    refine nthenR ?_
    exact fin1 rfl rfl
  · have hF1 : fewR l n 40 = true := by (simpa using h1)
    have hn40 := (fewR_row hF1 (by decide)).1
    have hfx : ∀ i, i < n → (l i).hd.tn ≤ 20 ∧ (l i).ch.gn ≤ 20 := fun i hi => fewRow_le ((fewR_row hF1 (by decide)).2 i hi)
    have hcl := counted_len l n
    refine cskip ?_
    refine nthen ?_
    refine cseq ?_
    refine creg ?_
    refine l1 (mvs rfl) ?_
    refine lclm hb51 rfl (mc rfl mn) (fun w' hw => counting_calls w' p n c l (by omega) (Sl.keptS hl hw) (fun i hi => (hx i hi).keptS hw) kx) ?_
    rintro v22 H22 k22
    obtain ⟨p5, c5, rfl⟩ := k22.form
    refine l1 (asgs rfl) ?_
    refine lnil ?_
    refine nthen ?_
    refine cseq ?_
    refine creg ?_
    refine l1 (mvs rfl) ?_
    refine l1 (ldw 0 Try.isAgg34 Try.sizeOf34 rfl rfl rfl) ?_
    refine lclm hb50 rfl (mc rfl (mc rfl mn)) (fun w' hw => of_calls w' tok p n c l (by omega) (Sl.keptS hl hw) (fun i hi => (hx i hi).keptS hw) kx hfx) ?_
    rintro v26 Hn ⟨I, rfl, hI1, hIn⟩
    refine wl_tail 1 ?_
    have hIk : HdOk I.hd := core_ok (coreI_f hI1).1 (of_ok kx)
    have hIg : I.gn ≤ 20 := by rw [coreI_gn hI1]; exact of_gn (fun i hi => (hfx i hi).2)
    refine l1 (mv rfl) ?_
    refine l1 (ext (vs := [.agg (encI I).toArray, .bool (ofI tok l n).2]) rfl rfl) ?_
    refine l1 (ext (vs := [.agg (encI I).toArray, .bool (ofI tok l n).2]) rfl rfl) ?_
    refine lal (zs := encI iz) Try.zeroValue83 rfl (fun b2 => ?_)
    refine wl_perm (ins_perm 1 _ _) ?_
    refine lstw 1 rfl rfl rfl Try.sizeOf83 rfl rfl rfl ?_
    refine l1 (asgb rfl) ?_
    refine lnil ?_
    refine nthen ?_
    refine cseq ?_
    refine creg ?_
    refine l1 (mvs rfl) ?_
    refine l1 (ldw 0 Try.isAgg34 Try.sizeOf34 rfl rfl rfl) ?_
    refine l1 (cl (v := .tuple #[.agg (encI (ofI tok l n).1).toArray, .bool (ofI tok l n).2]) hb52 rfl (mc rfl (mc rfl mn)) (fun w' hw => rof_calls w' tok p5 (counted l n).length c5 (counted l n) rfl (by omega) (SlIn.sl (k22.slInL (el := fun i => encR ((counted l n).getD i rz)) (fun a => rfl) (fun i hi => ⟨_, getD_getR hi, rfl⟩)) (hw.sub (List.Sublist.cons _ (List.Sublist.cons _ (List.sublist_append_left _ _))))))) ?_
    refine l1 (mv rfl) ?_
    refine l1 (ext (vs := [.agg (encI (ofI tok l n).1).toArray, .bool (ofI tok l n).2]) rfl rfl) ?_
    refine l1 (ext (vs := [.agg (encI (ofI tok l n).1).toArray, .bool (ofI tok l n).2]) rfl rfl) ?_
    refine lal (zs := encI iz) Try.zeroValue83 rfl (fun b3 => ?_)
    refine wl_perm (ins_perm 2 _ _) ?_
    refine lstw 2 rfl rfl rfl Try.sizeOf83 rfl rfl rfl ?_
    refine l1 (asgb rfl) ?_
    refine lnil ?_
    refine nthen ?_
    refine cseq ?_
    refine cseq ?_
    refine creg ?_
    refine l1 (mvb rfl) ?_
    refine l1 (mvb rfl) ?_
    refine l1 (neqb Try.underlying4 rfl rfl) ?_
    refine l1 (mvb rfl) ?_
    refine l1g rfl (gwf rfl) (fun h => mvb rfl) ?_
    refine l1g rfl (gwf rfl) (fun h => mvb (gvt h)) ?_
    refine l1g rfl (ggt rfl) (fun h => ldw 1 Try.isAgg83 Try.sizeOf83 rfl rfl rfl) ?_
    refine l1g rfl (ggt rfl) (fun h => ldw 2 Try.isAgg83 Try.sizeOf83 rfl rfl rfl) ?_
    refine l1g rfl (ggt rfl) (fun h => cl hb53 rfl (mc (gvt h) (mc (gvt h) mn)) (fun w hw => rsameI_calls I (ofI tok l n).1 w (hIn.sat (hw.sub (List.Sublist.cons _ (List.Sublist.cons _ (List.Sublist.cons _ (List.sublist_append_right _ _)))))) (of_in (fun i hi => (hx i hi).keptS hw)) hIk (of_ok kx) (by omega))) ?_
    refine l1g rfl (ggt rfl) (fun h => nt (gvt h)) ?_
    refine l1g rfl (gwf rfl) (fun h => pk_and (gvt h) (gva h) rfl) ?_
    refine l1 (pk_or rfl rfl rfl) ?_
    refine l1 (mvb rfl) ?_
    refine l1g rfl (gwf rfl) (fun h => mvb rfl) ?_
    refine l1g rfl (gwf rfl) (fun h => nt (gvt h)) ?_
    refine l1g rfl (gwf rfl) (fun h => mvb (gvt h)) ?_
    refine l1g rfl (ggt rfl) (fun h => fa fa83_2 rfl) ?_
    refine l1g rfl (ggt rfl) (fun h => ldc 1 Try.isAgg4 rfl (gvt h) rfl) ?_
    refine l1g rfl (ggt rfl) (fun h => mvb (gvt h)) ?_
    refine l1g rfl (ggf rfl) (fun h => fa fa83_3 rfl) ?_
    refine l1g rfl (ggf rfl) (fun h => ldc 1 Try.isAgg4 rfl (gvt h) rfl) ?_
    refine l1g rfl (ggt rfl) (fun h => pk_or (gvt h) rfl (gva h)) ?_
    refine l1g rfl (ggt rfl) (fun h => mvb (gvt h)) ?_
    refine l1g rfl (ggf rfl) (fun h => fa fa83_4 rfl) ?_
    refine l1g rfl (ggf rfl) (fun h => ldc 1 Try.isAgg9 rfl (gvt h) rfl) ?_
    refine l1g rfl (ggf rfl) (fun h => neqs (gvt h) rfl) ?_
    refine l1g rfl (ggt rfl) (fun h => pk_or (gvt h) rfl (gva h)) ?_
    refine l1g rfl (ggt rfl) (fun h => mvb (gvt h)) ?_
    refine l1g rfl (ggf rfl) (fun h => fa fa83_5 rfl) ?_
    refine l1g rfl (ggf rfl) (fun h => ldc 1 Try.isAgg75 rfl (gvt h) rfl) ?_
    refine l1g rfl (ggf rfl) (fun h => lens sl75 rfl (gvt h)) ?_
    refine l1g rfl (ggf rfl) (fun h => gtr (gvt h) rfl) ?_
    refine l1g rfl (ggt rfl) (fun h => pk_or (gvt h) rfl (gva h)) ?_
    refine l1g rfl (gwf rfl) (fun h => pk_and (gvt h) (gva h) rfl) ?_
    refine l1 (pk_or rfl rfl rfl) ?_
    refine lnil ?_
    refine nthen ?_
    refine ciff (bf rfl (of_guard hI1)) ?_
    refine cskip ?_
    refine nthen ?_
    refine cseq ?_
    refine cseq ?_
    refine creg ?_
    refine l1 (asg rfl) ?_
    refine lnil ?_
    refine nthen ?_
    refine cblock ?_
    refine cloopI (σ := Nat) (fun s => [(0, .slice p n c), (6, .pointer (some ⟨b2, 0, none⟩)), (7, .bool (ofI tok l n).2), (10, .int .i64 (s : Int))]) (fun s => ([⟨b2, encI I, 83⟩] ++ (Hn))) (fun s => s ≤ n) (fun s => n - s) 0 (Nat.zero_le _) ⟨rfl, rfl, rfl, rfl, trivial⟩ (List.Sublist.cons _ (List.Sublist.cons_cons _ (List.Sublist.cons _ (List.sublist_append_right _ _)))) ?_
    rintro i j hi
    show WC _ _ _ (⟨b2, encI I, 83⟩ :: (Hn)) _ _ (over j [(0, .slice p n c), (6, .pointer (some ⟨b2, 0, none⟩)), (7, .bool (ofI tok l n).2), (10, .int .i64 (i : Int))])
    replace hi : i ≤ n := hi
    refine cseq ?_
    refine cseq ?_
    refine creg ?_
    refine l1 (mvi rfl) ?_
    refine l1 (mvs rfl) ?_
    refine l1 (lens sl74 rfl rfl) ?_
    refine l1 (lss rfl rfl) ?_
    refine lnil ?_
    refine nthen ?_
    refine cif rfl (fun h2 => ?_) (fun h2 => ?_)
    · have hlt : i < n := by (have := dt h2; omega)
      obtain ⟨b, o, hp, hbl, hm⟩ := hl.at hlt
      refine cskip ?_
      refine nthen ?_
      refine cseq ?_
      refine cblock ?_
      refine cseq ?_
      refine creg ?_
      refine l1 (mvs rfl) ?_
      refine l1 (mvs rfl) ?_
      refine l1 (mvi rfl) ?_
      refine l1 (isp sl74 hp rfl rfl (by omega) (by omega)) ?_
      refine l1 (fa fa79_0 rfl) ?_
      refine l1 (fa fa37_6 rfl) ?_
      refine l1 (ldam (vs := arr .u8 16 (l i).hd.item) Try.isAgg34 Try.sizeOf34 rfl rfl (fun w' hw => mem_part 37 16 ((hm i hlt).kept hw.below hbl))) ?_
      refine lclm hb50 rfl (mc rfl (mc rfl mn)) (fun w' hw => of_calls w' (l i).hd.item p n c l (by omega) (Sl.keptS hl hw) (fun i hi => (hx i hi).keptS hw) kx hfx) ?_
      rintro v84 Hn2 ⟨J, rfl, hJ1, hJn⟩
      refine wl_tail 1 ?_
      have hJk : HdOk J.hd := core_ok (coreI_f hJ1).1 (of_ok kx)
      have hJg : J.gn ≤ 20 := by rw [coreI_gn hJ1]; exact of_gn (fun i hi => (hfx i hi).2)
      refine l1 (mv rfl) ?_
      refine l1 (ext (vs := [.agg (encI J).toArray, .bool (ofI (l i).hd.item l n).2]) rfl rfl) ?_
      refine l1 (ext (vs := [.agg (encI J).toArray, .bool (ofI (l i).hd.item l n).2]) rfl rfl) ?_
      refine lal (zs := encI iz) Try.zeroValue83 rfl (fun b4 => ?_)
      refine wl_perm (ins_perm 1 _ _) ?_
      refine lstw 1 rfl rfl rfl Try.sizeOf83 rfl rfl rfl ?_
      refine l1 (asgb rfl) ?_
      refine lnil ?_
      refine nthen ?_
      refine cseq ?_
      refine cregq mo (by kernel_rfl) ?_
      refine q1 (mvs rfl) ?_
      refine q1 (mvi rfl) ?_
      refine q1 (isp sl74 hp rfl rfl (by omega) (by omega)) ?_
      refine q1 (ldam (vs := encR (l i)) Try.isAgg79 Try.sizeOf79 rfl rfl (fun w' hw => (hm i hlt).kept hw.below hbl)) ?_
      refine q1 (cl hb54 rfl (mc rfl mn) (fun w hw => rowformed_calls (l i) w ((hx i hlt).keptS hw) (kx i hlt))) ?_
      refine q1 (mvs rfl) ?_
      refine q1 (mvi rfl) ?_
      refine q1 (isp sl74 hp rfl rfl (by omega) (by omega)) ?_
      refine q1 (ldam (vs := encR (l i)) Try.isAgg79 Try.sizeOf79 rfl rfl (fun w' hw => (hm i hlt).kept hw.below hbl)) ?_
      refine q1 (cl hb49 rfl (mc rfl mn) (fun w hw => rrowformed_calls (l i) w ((hx i hlt).keptS hw) (kx i hlt))) ?_
      refine q1 (neqb Try.underlying4 rfl rfl) ?_
      refine q1 (mvb rfl) ?_
      refine q1g rfl (gwf rfl) (fun h => ldw 0 Try.isAgg83 Try.sizeOf83 rfl rfl rfl) ?_
      refine q1g rfl (gwf rfl) (fun h => ldw 1 Try.isAgg83 Try.sizeOf83 rfl rfl rfl) ?_
      refine q1g rfl (gwf rfl) (fun h => cl hb55 rfl (mc (gvt h) (mc (gvt h) mn)) (fun w hw => sameI_calls I J w (hIn.sat (hw.sub (List.Sublist.cons _ (List.Sublist.cons _ (List.sublist_append_left _ _))))) (hJn.sat (hw.sub (List.Sublist.cons _ (List.Sublist.cons _ (List.sublist_append_right _ _))))) hIk (by omega))) ?_
      refine q1g rfl (gwf rfl) (fun h => ldw 0 Try.isAgg83 Try.sizeOf83 rfl rfl rfl) ?_
      refine q1g rfl (gwf rfl) (fun h => ldw 1 Try.isAgg83 Try.sizeOf83 rfl rfl rfl) ?_
      refine q1g rfl (gwf rfl) (fun h => cl hb53 rfl (mc (gvt h) (mc (gvt h) mn)) (fun w hw => rsameI_calls I J w (hIn.sat (hw.sub (List.Sublist.cons _ (List.Sublist.cons _ (List.sublist_append_left _ _))))) (hJn.sat (hw.sub (List.Sublist.cons _ (List.Sublist.cons _ (List.sublist_append_right _ _))))) hIk hJk (by omega))) ?_
      refine q1g rfl (gwf rfl) (fun h => neqb Try.underlying4 (gvt h) (gvt h)) ?_
      refine q1g rfl (gwf rfl) (fun h => mvb (gvt h)) ?_
      refine q1g rfl (ggt rfl) (fun h => mvb rfl) ?_
      refine q1g rfl (gwf rfl) (fun h => pk_and (gvt h) (gva h) rfl) ?_
      refine q1 (pk_or rfl rfl rfl) ?_
      refine qnil ?_
      refine nthen ?_
      refine ciff (bf rfl (of_loop kx hI1 hJ1 (kx i hlt))) ?_
      refine cskip ?_
      refine nblkN ?_
      refine nthen ?_
      refine creg ?_
      refine l1 (mvi rfl) ?_
      first | refine l1 (addn rfl rfl (ri (by omega) (by omega))) ?_ | refine l1 (add rfl rfl) ?_
      refine l1 (asg rfl) ?_
      refine lnil ?_
      exact nI (i + 1) (by show i + 1 ≤ n; omega) (by show n - (i + 1) < n - i; omega) ⟨rfl, rfl, rfl, rfl, trivial⟩ (List.Sublist.cons_cons _ (List.Sublist.cons _ (List.sublist_append_left _ _)))
    · skip
      refine cexit ?_
      refine nthenE ?_
      refine nIE ?_
      refine nblkE ?_
      refine nthen ?_
      refine cseq ?_
      refine creg ?_
      refine l1 (asg rfl) ?_
      refine lnil ?_
      refine nthen ?_
      refine cret ?_
      exact fin1 rfl rfl
end Go.Proofs.Ytkdbjhlkahkobaa
/- all items of some rows: plain laws -/
namespace Go.Proofs.Ytkdbjhlkahkobaa
open Jal Go.RowKit
set_option maxRecDepth 100000
theorem nd_len : ∀ (m : Nat) (l : List Nat), l.Nodup → (∀ x ∈ l, x < m) → l.length ≤ m
  | 0, [], _, _ => Nat.le_refl _
  | 0, x :: _, _, h => absurd (h x (by simp)) (Nat.not_lt_zero _)
  | m + 1, l, hn, h => by
    by_cases hm : m ∈ l
    · have h1 := nd_len m (l.erase m) (hn.erase m) (fun x hx => by
        have := hn.mem_erase_iff.1 hx
        have := h x this.2
        omega)
      rw [List.length_erase_of_mem hm] at h1
      omega
    · have := nd_len m l hn (fun x hx => by
        have h1 := h x hx
        have h2 : x ≠ m := fun e => hm (e ▸ hx)
        omega)
      omega
/-! ### groups -/
theorem addP_tok (r : Rw) : ∀ (P : List ((Nat → Int) × List Rw)) (p : (Nat → Int) × List Rw), p ∈ addP P r → (∃ q ∈ P, p.1 = q.1) ∨ p.1 = r.hd.item
  | [], p, h => by
    obtain rfl := List.mem_singleton.1 h
    exact .inr rfl
  | (t, R) :: P, p, h => by
    unfold addP at h
    cases hq : eqA 16 r.hd.item t with
    | true =>
      rw [hq] at h
      rcases List.mem_cons.1 h with rfl | h
      · exact .inl ⟨(t, R), by simp, rfl⟩
      · exact .inl ⟨p, List.mem_cons_of_mem _ h, rfl⟩
    | false =>
      rw [hq] at h
      rcases List.mem_cons.1 h with rfl | h
      · exact .inl ⟨(t, R), by simp, rfl⟩
      · rcases addP_tok r P p h with ⟨q, h1, h2⟩ | h1
        · exact .inl ⟨q, List.mem_cons_of_mem _ h1, h2⟩
        · exact .inr h1
theorem addP_len (r : Rw) : ∀ (P : List ((Nat → Int) × List Rw)), (addP P r).length ≤ P.length + 1
  | [] => Nat.le_refl _
  | (t, R) :: P => by
    unfold addP
    cases eqA 16 r.hd.item t with
    | true => show (_ :: P).length ≤ _; simp
    | false => show (_ :: addP P r).length ≤ _; have := addP_len r P; simp; omega
theorem addP_apart (r : Rw) : ∀ (P : List ((Nat → Int) × List Rw)), P.Pairwise (fun p q => eqA 16 p.1 q.1 = false) → (addP P r).Pairwise (fun p q => eqA 16 p.1 q.1 = false)
  | [], _ => List.pairwise_singleton _ _
  | (t, R) :: P, h => by
    obtain ⟨h1, h2⟩ := List.pairwise_cons.1 h
    unfold addP
    cases hq : eqA 16 r.hd.item t with
    | true => exact List.pairwise_cons.2 ⟨h1, h2⟩
    | false =>
      refine List.pairwise_cons.2 ⟨fun p hp => ?_, addP_apart r P h2⟩
      rcases addP_tok r P p hp with ⟨q, h3, h4⟩ | h3
      · rw [h4]; exact h1 q h3
      · rw [h3, eqA_comm]; exact hq
theorem parts_snoc (C : List Rw) (r : Rw) : partsOf (C ++ [r]) = addP (partsOf C) r := by unfold partsOf; rw [List.foldl_append]; rfl
theorem parts_all (C : List Rw) : (partsOf C).Pairwise (fun p q => eqA 16 p.1 q.1 = false) ∧ (partsOf C).length ≤ C.length ∧ ∀ p ∈ partsOf C, ∃ r ∈ C, p.1 = r.hd.item := by
  suffices h : ∀ (D : List Rw), (partsOf D.reverse).Pairwise (fun p q => eqA 16 p.1 q.1 = false) ∧ (partsOf D.reverse).length ≤ D.reverse.length ∧ ∀ p ∈ partsOf D.reverse, ∃ r ∈ D.reverse, p.1 = r.hd.item by
    have := h C.reverse
    rwa [List.reverse_reverse] at this
  intro D
  induction D with
  | nil => exact ⟨List.Pairwise.nil, Nat.le_refl _, fun p hp => absurd hp (by simp [partsOf])⟩
  | cons r D ih =>
    rw [List.reverse_cons, parts_snoc]
    obtain ⟨h1, h2, h3⟩ := ih
    refine ⟨addP_apart r _ h1, ?_, fun p hp => ?_⟩
    · have := addP_len r (partsOf D.reverse)
      rw [List.length_append]; simp only [List.length_cons, List.length_nil]; omega
    · rcases addP_tok r _ p hp with ⟨q, h4, h5⟩ | h4
      · obtain ⟨s, h6, h7⟩ := h3 q h4
        exact ⟨s, List.mem_append_left _ h6, by rw [h5, h7]⟩
      · exact ⟨r, by simp, h4⟩
/-- the rows of a group -/
theorem parts_rows (C : List Rw) {p : (Nat → Int) × List Rw} (hp : p ∈ partsOf C) : p.2 = ofRows p.1 C := by
  have key : ∀ (P : List ((Nat → Int) × List Rw)), P.Pairwise (fun p q => eqA 16 p.1 q.1 = false) → p ∈ P → lookP p.1 P = p.2 := by
    intro P
    induction P with
    | nil => intro _ h; cases h
    | cons q P ih =>
      intro h hp
      obtain ⟨h1, h2⟩ := List.pairwise_cons.1 h
      obtain ⟨t, R⟩ := q
      show (bif eqA 16 p.1 t then R else lookP p.1 P) = p.2
      rcases List.mem_cons.1 hp with rfl | hp
      · rw [eqA_refl]; rfl
      · have h3 := h1 p hp
        rw [eqA_comm] at h3
        rw [show eqA 16 p.1 t = false from h3]
        exact ih h2 hp
  rw [← lookP_parts, key _ (parts_all C).1 hp]
def partI (p : (Nat → Int) × List Rw) : It := coreI (madeI p.1 p.2)
/-- all items, in no order -/
def foldP (C : List Rw) : List It := (partsOf C).map partI
theorem made_tok (tok : Nat → Int) (L : List Rw) : (madeI tok L).tok = tok := by
  unfold madeI
  cases (latR valuedR L).2 && decide ((latR valuedR L).1.ch.op = 1) <;> rfl
theorem partI_tok (p : (Nat → Int) × List Rw) : (partI p).tok = p.1 := made_tok p.1 p.2
/-! ### the loop -/
def gz : Gp := ⟨fun _ => 0, [], znil, []⟩
theorem gm_get {G : List Gp} {j : Nat} {a : Nat → Int} {v : Value} (h : (gm G)[j]? = some (a, v)) : ∃ g, G[j]? = some g ∧ g ∈ G ∧ a = g.tok ∧ v = g.v := by
  unfold gm at h
  rw [List.getElem?_map] at h
  cases hg : G[j]? with
  | none => rw [hg] at h; cases h
  | some g =>
    rw [hg] at h
    simp only [Option.map_some, Option.some.injEq, Prod.mk.injEq] at h
    exact ⟨g, rfl, List.mem_of_getElem? hg, h.1.symm, h.2.symm⟩
structure FldS where
  seen : List Nat
  acc : List It
  v : Value
  oe : List Ent
  tl : List Ent
def seenI (G : List Gp) (j : Nat) : It := partI ((G.getD j gz).tok, (G.getD j gz).rows)
structure FldOk (G : List Gp) (s : FldS) : Prop where
  nd : s.seen.Nodup
  lt : ∀ j ∈ s.seen, j < G.length
  acc : s.acc.map coreI = s.seen.map (seenI G)
  own : OwnL 83 146 s.v s.acc.length (s.acc.flatMap encI) s.oe
  mem : ∀ i ∈ s.acc, ItIn s.tl i
theorem FldOk.start (G : List Gp) : FldOk G ⟨[], [], .slice none 0 0, [], []⟩ := ⟨List.nodup_nil, fun _ h => absurd h (by simp), rfl, OwnL.nil 83 146, fun _ h => absurd h (by simp)⟩
theorem FldOk.len {G : List Gp} {s : FldS} (h : FldOk G s) : s.acc.length = s.seen.length ∧ s.seen.length ≤ G.length := by
  refine ⟨?_, nd_len _ _ h.nd h.lt⟩
  have := congrArg List.length h.acc
  simpa using this
theorem FldOk.next {G : List Gp} {s : FldS} (h : FldOk G s) {j : Nat} {g : Gp} (hj : G[j]? = some g) (hn : s.seen.contains j = false) {I : It} (hI : coreI I = coreI (madeI g.tok g.rows)) {Hn oe' : List Ent} {v' : Value} (hin : ItIn Hn I)
    (ho : OwnL 83 146 v' (s.acc.length + 1) (s.acc.flatMap encI ++ encI I) oe') : FldOk G ⟨s.seen ++ [j], s.acc ++ [I], v', oe', s.tl ++ Hn⟩ ∧ G.length - (s.seen ++ [j]).length < G.length - s.seen.length := by
  have hjl := (List.getElem?_eq_some_iff.1 hj).1
  have hns : j ∉ s.seen := fun hm => by
    have := List.contains_iff_mem.2 hm
    rw [hn] at this; cases this
  have hok : FldOk G ⟨s.seen ++ [j], s.acc ++ [I], v', oe', s.tl ++ Hn⟩ := by
    refine ⟨?_, fun k hk => ?_, ?_, ?_, fun i hi => ?_⟩
    · show (s.seen ++ [j]).Nodup
      rw [List.nodup_append]
      exact ⟨h.nd, by simp, fun a ha b hb e => by obtain rfl := List.mem_singleton.1 hb; exact hns (e ▸ ha)⟩
    · rcases List.mem_append.1 hk with hk | hk
      · exact h.lt k hk
      · obtain rfl := List.mem_singleton.1 hk; exact hjl
    · show (s.acc ++ [I]).map coreI = (s.seen ++ [j]).map (seenI G)
      rw [List.map_append, List.map_append, h.acc]
      congr 1
      show [coreI I] = [seenI G j]
      unfold seenI partI
      rw [List.getD_eq_getElem?_getD, hj, hI]; rfl
    · show OwnL 83 146 v' (s.acc ++ [I]).length ((s.acc ++ [I]).flatMap encI) oe'
      rw [List.length_append, List.flatMap_append]
      simpa using ho
    · rcases List.mem_append.1 hi with hi | hi
      · exact ⟨(h.mem i hi).h.mono (fun e he => List.mem_append_left _ he), (h.mem i hi).g.mono (fun e he => List.mem_append_left _ he)⟩
      · obtain rfl := List.mem_singleton.1 hi
        exact ⟨hin.h.mono (fun e he => List.mem_append_right _ he), hin.g.mono (fun e he => List.mem_append_right _ he)⟩
  have hl := hok.len.2
  refine ⟨hok, ?_⟩
  have : (s.seen ++ [j]).length = s.seen.length + 1 := by simp
  have hl' : (s.seen ++ [j]).length ≤ G.length := hl
  omega
theorem FldOk.done {G : List Gp} {s : FldS} (h : FldOk G s) (hall : ∀ j, j < G.length → s.seen.contains j = true) {C : List Rw} (hG : pg G = partsOf C) : (s.acc.map coreI).Perm (foldP C) := by
  have hp : s.seen.Perm (List.range G.length) := by
    rw [List.perm_ext_iff_of_nodup h.nd List.nodup_range]
    intro a
    rw [List.mem_range]
    exact ⟨h.lt a, fun ha => List.contains_iff_mem.1 (hall a ha)⟩
  rw [h.acc]
  have e : (List.range G.length).map (seenI G) = foldP C := by
    unfold foldP
    rw [← hG]
    unfold pg
    rw [List.map_map]
    apply List.ext_getElem?
    intro i
    rw [List.getElem?_map, List.getElem?_map]
    by_cases hi : i < G.length
    · rw [List.getElem?_range hi, List.getElem?_eq_getElem hi]
      show some (seenI G i) = some _
      unfold seenI
      rw [List.getD_eq_getElem?_getD, List.getElem?_eq_getElem hi]; rfl
    · rw [List.getElem?_eq_none (by simpa using hi), List.getElem?_eq_none (by simpa using hi)]; rfl
  rw [← e]
  exact hp.map _
/-- what folding gives -/
structure FoldF (C : List Rw) (L : List It) (v : Value) (oe tl : List Ent) : Prop where
  own : OwnL 83 146 v L.length (L.flatMap encI) oe
  mem : ∀ i ∈ L, ItIn tl i
  perm : (L.map coreI).Perm (foldP C)
  srt : SortedI L
def FoldR (C : List Rw) (w : World) : Ending → World → Prop := RetM (fun v Hn => ∃ L oe tl, Hn = oe ++ tl ∧ FoldF C L v oe tl) w
theorem Sat.rebase {w W w' : World} {H : List Ent} (hb : Below w.heap.size w W) (h : Sat W H w') : Sat w H w' :=
  ⟨hb.trans (h.below.mono hb.size), fun e he => ⟨Nat.le_trans hb.size (h.own e he).1, (h.own e he).2⟩, h.apart⟩
theorem el90 : ElT Try.prog 90 83 146 312 := by
  obtain ⟨i, h1, h2, h3, h4⟩ := info_parts (P := Try.prog) (e := 83) (z := .agg (encI iz).toArray) (size := 146) (bytes := 312) (by kernel_rfl)
  exact ⟨i, _, Try.underlying90, h1, h2, h3, h4, rfl, by decide⟩
theorem bs90 (x : It) : ∀ w : World, (Instr.buildSlice 90 1 #[(0, .agg (encI x).toArray)]).run Try.prog w = .ok (.slice (some ⟨w.heap.size, 0, none⟩) 1 1) (w.alloc (.cells (encI x).toArray 83)) := fun w => by kernel_rfl
theorem fold_tokB {C : List Rw} {L : List It} (hp : (L.map coreI).Perm (foldP C)) (k : ∀ r ∈ C, RwOk r) : ∀ i ∈ L, tokB i.tok := by
  intro i hi
  have h1 : coreI i ∈ foldP C := hp.mem_iff.1 (List.mem_map.2 ⟨i, hi, rfl⟩)
  obtain ⟨p, hp, h2⟩ := List.mem_map.1 h1
  obtain ⟨r, hr, h3⟩ := (parts_all C).2.2 p hp
  have h4 : i.tok = p.1 := by
    have h5 : (coreI i).tok = (partI p).tok := by rw [h2]
    rw [partI_tok] at h5; exact h5
  rw [h4, h3]
  exact (k r hr).h.item
theorem cnt_ok {l : Nat → Rw} {n : Nat} (k : ∀ i, i < n → RwOk (l i)) : ∀ r ∈ counted l n, RwOk r := fun r hr => by
  obtain ⟨j, h1, rfl, _⟩ := cnt_mem l n r hr
  exact k j h1
end Go.Proofs.Ytkdbjhlkahkobaa
/- all items: one order alone; rows that come twice; rows turned round: plain laws -/
namespace Go.Proofs.Ytkdbjhlkahkobaa
open Jal Go.RowKit
set_option maxRecDepth 100000
/-! ### a token's bytes alone -/
def nrm (t : Nat → Int) : Nat → Int := fun i => if i < 16 then t i else 0
def nrmI (i : It) : It := { i with tok := nrm i.tok }
theorem nrm_eq {a b : Nat → Int} (h : eqA 16 a b = true) : nrm a = nrm b := by
  funext i
  unfold nrm
  by_cases hi : i < 16
  · rw [if_pos hi, if_pos hi]; exact eqA_iff.1 h i hi
  · rw [if_neg hi, if_neg hi]
theorem nrm_of {a b : Nat → Int} (h : nrm a = nrm b) : eqA 16 a b = true := eqA_iff.2 fun i hi => by
  have := congrFun h i
  unfold nrm at this
  rwa [if_pos hi, if_pos hi] at this
theorem tl_nrm (a : Nat → Int) : tl 16 (nrm a) = tl 16 a := by
  unfold tl
  exact List.map_congr_left fun i hi => by unfold nrm; rw [if_pos (List.mem_range.1 hi)]
theorem tl_eq {a b : Nat → Int} (h : tl 16 a = tl 16 b) : eqA 16 a b = true := eqA_iff.2 fun i hi => by
  rw [← tl_getD hi (f := a), ← tl_getD hi (f := b), h]
theorem rsame_nrm {a b : It} (h : nrmI (coreI a) = nrmI (coreI b)) : rsameI a b = true := by
  have ht : eqA 16 a.tok b.tok = true := nrm_of (show (nrmI (coreI a)).tok = (nrmI (coreI b)).tok by rw [h])
  have hh : core a.hd = core b.hd := show (nrmI (coreI a)).hd = (nrmI (coreI b)).hd by rw [h]
  have hk : a.known = b.known := show (nrmI (coreI a)).known = (nrmI (coreI b)).known by rw [h]
  have ha : a.alive = b.alive := show (nrmI (coreI a)).alive = (nrmI (coreI b)).alive by rw [h]
  have hn : a.name = b.name := show (nrmI (coreI a)).name = (nrmI (coreI b)).name by rw [h]
  have hg : a.gn = b.gn := show (nrmI (coreI a)).gn = (nrmI (coreI b)).gn by rw [h]
  have htg : a.tag = b.tag := show (nrmI (coreI a)).tag = (nrmI (coreI b)).tag by rw [h]
  have hv : a.value = b.value := show (nrmI (coreI a)).value = (nrmI (coreI b)).value by rw [h]
  unfold rsameI
  rw [sameCh_chI, ht, hk, ha, hn, hg, htg, hv, strH_core a.hd, hh, ← strH_core b.hd, eqS_refl]
  simp
/-! ### one order alone -/
theorem sorted_eq {α : Type} {lt : α → α → Prop} (has : ∀ a b, lt a b → ¬ lt b a) : ∀ {l m : List α}, l.Perm m → l.Pairwise lt → m.Pairwise lt → l = m
  | [], m, hp, _, _ => (List.nil_perm.1 hp).symm
  | a :: l, [], hp, _, _ => absurd hp.length_eq (by simp)
  | a :: l, b :: m, hp, h1, h2 => by
    obtain ⟨h3, h4⟩ := List.pairwise_cons.1 h1
    obtain ⟨h5, h6⟩ := List.pairwise_cons.1 h2
    have e : a = b := by
      have ha : a ∈ b :: m := hp.mem_iff.1 (by simp)
      have hb : b ∈ a :: l := hp.mem_iff.2 (by simp)
      rcases List.mem_cons.1 ha with h | h
      · exact h
      · rcases List.mem_cons.1 hb with h' | h'
        · exact h'.symm
        · exact absurd (h3 b h') (has _ _ (h5 a h))
    subst e
    rw [sorted_eq has hp.cons_inv h4 h6]
def foldN (C : List Rw) : List It := (foldP C).map nrmI
theorem tk_nrm (i : It) : tk (nrmI i) = tk i := tl_nrm i.tok
theorem tk_core (i : It) : tk (coreI i) = tk i := rfl
theorem foldN_apart (C : List Rw) : (foldN C).Pairwise (fun a b => tk a ≠ tk b) := by
  unfold foldN foldP
  rw [List.pairwise_map, List.pairwise_map]
  refine (parts_all C).1.imp (fun {p q} h e => ?_)
  rw [tk_nrm, tk_nrm] at e
  unfold tk at e
  rw [partI_tok, partI_tok] at e
  rw [tl_eq e] at h; cases h
def ltN (a b : It) : Prop := lexI (tk a) (tk b) < 0
theorem strict_of {L P : List It} (hp : L.Perm P) (hP : P.Pairwise (fun a b => tk a ≠ tk b)) (hs : L.Pairwise (fun a b => ¬ lexI (tk b) (tk a) < 0)) : L.Pairwise ltN := by
  have h1 : L.Pairwise (fun a b => tk a ≠ tk b) := (hp.pairwise_iff (fun h e => h e.symm)).2 hP
  refine (List.Pairwise.and h1 hs).imp (fun {a b} h => ?_)
  obtain ⟨h2, h3⟩ := h
  rcases lexI_neg h3 with h4 | h4
  · exact absurd h4 h2
  · exact h4
theorem fold_eq {C1 C2 : List Rw} {L1 L2 : List It} (hC : (foldN C1).Perm (foldN C2)) (p1 : (L1.map coreI).Perm (foldP C1)) (p2 : (L2.map coreI).Perm (foldP C2)) (s1 : SortedI L1) (s2 : SortedI L2) :
    (L1.map coreI).map nrmI = (L2.map coreI).map nrmI := by
  have srt : ∀ {L : List It}, SortedI L → ((L.map coreI).map nrmI).Pairwise (fun a b => ¬ lexI (tk b) (tk a) < 0) := fun {L} h => by
    rw [List.pairwise_map, List.pairwise_map]
    refine h.imp (fun {a b} h => ?_)
    rw [tk_nrm, tk_nrm, tk_core, tk_core]; exact h
  have q1 : ((L1.map coreI).map nrmI).Perm (foldN C1) := p1.map nrmI
  have q2 : ((L2.map coreI).map nrmI).Perm (foldN C2) := p2.map nrmI
  exact sorted_eq (lt := ltN) (fun a b h => lexI_asym h) ((q1.trans hC).trans q2.symm) (strict_of q1 (foldN_apart C1) (srt s1)) (strict_of q2 (foldN_apart C2) (srt s2))
theorem map_same {L1 L2 : List It} (h : (L1.map coreI).map nrmI = (L2.map coreI).map nrmI) : L1.length = L2.length ∧ ∀ i, i < L1.length → rsameI (L1.getD i iz) (L2.getD i iz) = true := by
  have hl : L1.length = L2.length := by have := congrArg List.length h; simpa using this
  refine ⟨hl, fun i hi => rsame_nrm ?_⟩
  have h1 : ((L1.map coreI).map nrmI)[i]? = ((L2.map coreI).map nrmI)[i]? := by rw [h]
  rw [List.getElem?_map, List.getElem?_map, List.getElem?_map, List.getElem?_map, List.getElem?_eq_getElem hi, List.getElem?_eq_getElem (show i < L2.length by omega)] at h1
  rw [List.getD_eq_getElem?_getD, List.getD_eq_getElem?_getD, List.getElem?_eq_getElem hi, List.getElem?_eq_getElem (show i < L2.length by omega)]
  simpa using h1
/-! ### what the items have of the rows -/
theorem fold_of {C : List Rw} {L : List It} (hp : (L.map coreI).Perm (foldP C)) {i : It} (hi : i ∈ L) : ∃ tok rows, coreI i = coreI (madeI tok rows) ∧ (∀ r ∈ rows, r ∈ C) ∧ rows = ofRows tok C ∧ ∃ r ∈ C, tok = r.hd.item := by
  have h1 : coreI i ∈ foldP C := hp.mem_iff.1 (List.mem_map.2 ⟨i, hi, rfl⟩)
  obtain ⟨p, hp, h2⟩ := List.mem_map.1 h1
  have h3 := parts_rows C hp
  exact ⟨p.1, p.2, h2.symm, fun r hr => by rw [h3] at hr; exact (List.mem_filter.1 hr).1, h3, (parts_all C).2.2 p hp⟩
theorem fold_hd {C : List Rw} {L : List It} (hp : (L.map coreI).Perm (foldP C)) (k : ∀ r ∈ C, RwOk r) : ∀ i ∈ L, HdOk i.hd := by
  intro i hi
  obtain ⟨tok, rows, h1, h2, _⟩ := fold_of hp hi
  refine core_ok (coreI_f h1).1 ?_
  rw [(made_f tok rows).1]
  exact lat_in2 (Pr := fun r => HdOk r.hd) hz_ok (fun r hr => (k r (h2 r hr)).h)
theorem fold_gn {C : List Rw} {L : List It} {m : Nat} (hp : (L.map coreI).Perm (foldP C)) (k : ∀ r ∈ C, r.ch.gn ≤ m) : ∀ i ∈ L, i.gn ≤ m := by
  intro i hi
  obtain ⟨tok, rows, h1, h2, _⟩ := fold_of hp hi
  rw [coreI_gn h1]
  exact made_gn (fun r hr => k r (h2 r hr))
theorem fold_len {C : List Rw} {L : List It} (hp : (L.map coreI).Perm (foldP C)) : L.length ≤ C.length := by
  have h1 := hp.length_eq
  rw [List.length_map] at h1
  unfold foldP at h1
  rw [List.length_map] at h1
  rw [h1]; exact (parts_all C).2.1
theorem getD_memI {L : List It} {i : Nat} (h : i < L.length) : L.getD i iz ∈ L := by
  rw [List.getD_eq_getElem?_getD, List.getElem?_eq_getElem h]; exact List.getElem_mem h
theorem getD_getI {L : List It} {i : Nat} (h : i < L.length) : L[i]? = some (L.getD i iz) := by
  rw [List.getD_eq_getElem?_getD, List.getElem?_eq_getElem h]; rfl
theorem own_itm {p : Option Addr} {n c q : Nat} {L : List It} {oe : List Ent} (h : OwnL 83 146 (.slice p n c) n (L.flatMap encI) oe) (hL : L.length = n) (hq : q < n) :
    ∃ g, p = some ⟨g, 0, none⟩ ∧ ∀ w0 H w, Sat w0 H w → oe.Sublist H → Mem w ⟨g, 0 + q * 146, none⟩ (encI (L.getD q iz)) := by
  rcases h.2 with ⟨_, h0, _⟩ | ⟨g, cap, cur, h1, h2, _⟩
  · omega
  · cases h1
    refine ⟨g, rfl, fun w0 H w hw hs => ?_⟩
    have hsl := SlIn.sl (h.slInL (el := fun i => encI (L.getD i iz)) (fun a => rfl) (fun i hi => ⟨L.getD i iz, getD_getI (by omega), rfl⟩)) (hw.sub hs)
    obtain ⟨b, o, hp, _, hm⟩ := hsl.at hq
    cases hp
    exact hm q hq
/-! ### rows that come twice -/
theorem seen_iff {S : List Rw} {r : Rw} : seenR S r = true ↔ ∃ s ∈ S, keyR r = keyR s := by
  unfold seenR
  rw [List.any_eq_true]
  constructor
  · rintro ⟨s, h1, h2⟩
    unfold eq140 at h2
    rw [Bool.and_eq_true, decide_eq_true_eq, decide_eq_true_eq] at h2
    exact ⟨s, h1, Prod.ext h2.1 h2.2⟩
  · rintro ⟨s, h1, h2⟩
    exact ⟨s, h1, by rw [h2]; simp [eq140]⟩
theorem cnt_filter : ∀ (L S : List Rw), (L.filter formedR).foldl cntStep S = L.foldl cntStep S
  | [], _ => rfl
  | r :: L, S => by
    rw [List.filter_cons]
    cases h : formedR r with
    | true =>
      show (L.filter formedR).foldl cntStep (cntStep S r) = L.foldl cntStep (cntStep S r)
      exact cnt_filter L _
    | false =>
      show (L.filter formedR).foldl cntStep S = L.foldl cntStep (cntStep S r)
      have : cntStep S r = S := by unfold cntStep; rw [h]; rfl
      rw [this]
      exact cnt_filter L S
theorem cnt_sub (S : List Rw) (r : Rw) : ∀ s ∈ S, s ∈ cntStep S r := fun s hs => by
  unfold cntStep
  cases !formedR r || seenR S r with
  | true => exact hs
  | false => exact List.mem_append_left _ hs
theorem cnt_subs : ∀ (L S : List Rw), ∀ s ∈ S, s ∈ L.foldl cntStep S
  | [], _, s, hs => hs
  | r :: L, S, s, hs => cnt_subs L _ s (cnt_sub S r s hs)
theorem cnt_seen : ∀ (L S : List Rw) (r : Rw), r ∈ L → formedR r = true → seenR (L.foldl cntStep S) r = true
  | [], _, _, h, _ => by cases h
  | x :: L, S, r, h, hf => by
    rcases List.mem_cons.1 h with rfl | h
    · have h1 : seenR (cntStep S r) r = true := by
        unfold cntStep
        cases h2 : seenR S r with
        | true => rw [Bool.or_true]; exact h2
        | false =>
          rw [hf]
          exact seen_iff.2 ⟨r, by simp, rfl⟩
      obtain ⟨s, h2, h3⟩ := seen_iff.1 h1
      exact seen_iff.2 ⟨s, cnt_subs L _ s h2, h3⟩
    · exact cnt_seen L _ r h hf
theorem cnt_stay : ∀ (L S : List Rw), (∀ r ∈ L, seenR S r = true) → L.foldl cntStep S = S
  | [], _, _ => rfl
  | r :: L, S, h => by
    have h1 : cntStep S r = S := by unfold cntStep; rw [h r (by simp), Bool.or_true]; rfl
    show L.foldl cntStep (cntStep S r) = S
    rw [h1]
    exact cnt_stay L S (fun x hx => h x (List.mem_cons_of_mem _ hx))
def frmL (l : Nat → Rw) (i : Nat) : List Rw := (rowsL l i).filter formedR
theorem frm_yes {l : Nat → Rw} {i : Nat} (h : formedR (l i) = true) : frmL l (i + 1) = frmL l i ++ [l i] := by
  unfold frmL; rw [rowsL_succ, List.filter_append]; simp [h]
theorem frm_no {l : Nat → Rw} {i : Nat} (h : formedR (l i) = false) : frmL l (i + 1) = frmL l i := by
  unfold frmL; rw [rowsL_succ, List.filter_append]; simp [h]
theorem frm_len (l : Nat → Rw) (i : Nat) : (frmL l i).length ≤ i := by
  have := List.length_filter_le formedR (rowsL l i)
  rw [rowsL_len] at this; exact this
theorem frm_mem {l : Nat → Rw} {n : Nat} {r : Rw} (h : r ∈ frmL l n) : ∃ j, j < n ∧ r = l j := by
  obtain ⟨j, h1, h2⟩ := List.mem_map.1 (List.mem_filter.1 h).1
  exact ⟨j, List.mem_range.1 h1, h2.symm⟩
def twcL (l : Nat → Rw) (n : Nat) : List Rw := frmL l n ++ frmL l n
theorem twice_counted (l : Nat → Rw) (n : Nat) : counted (fun i => (twcL l n).getD i rz) (twcL l n).length = counted l n := by
  unfold counted
  rw [getL_rows]
  unfold twcL
  rw [List.foldl_append]
  unfold frmL
  rw [cnt_filter (rowsL l n) [], cnt_filter]
  have := cnt_stay ((rowsL l n).filter formedR) ((rowsL l n).foldl cntStep []) (fun r hr => cnt_seen _ _ r (List.mem_filter.1 hr).1 (List.mem_filter.1 hr).2)
  rw [cnt_filter] at this
  exact this
/-! ### rows turned round -/
theorem cnt_uniq : ∀ (L S : List Rw), (L.Pairwise fun a b => keyR a ≠ keyR b) → (∀ r ∈ L, seenR S r = false) → L.foldl cntStep S = S ++ L.filter formedR
  | [], S, _, _ => (List.append_nil S).symm
  | r :: L, S, h, hs => by
    obtain ⟨h1, h2⟩ := List.pairwise_cons.1 h
    show L.foldl cntStep (cntStep S r) = _
    rw [List.filter_cons]
    have hr := hs r (by simp)
    cases hf : formedR r with
    | false =>
      have e : cntStep S r = S := by unfold cntStep; rw [hf]; rfl
      rw [e, cnt_uniq L S h2 (fun x hx => hs x (List.mem_cons_of_mem _ hx))]; rfl
    | true =>
      have e : cntStep S r = S ++ [r] := by unfold cntStep; rw [hf, hr]; rfl
      rw [e, cnt_uniq L (S ++ [r]) h2 (fun x hx => ?_)]
      · simp
      · cases hx2 : seenR (S ++ [r]) x with
        | false => rfl
        | true =>
          obtain ⟨s, h3, h4⟩ := seen_iff.1 hx2
          rcases List.mem_append.1 h3 with h3 | h3
          · have := seen_iff.2 ⟨s, h3, h4⟩
            rw [hs x (List.mem_cons_of_mem _ hx)] at this; cases this
          · obtain rfl := List.mem_singleton.1 h3
            exact absurd h4.symm (h1 x hx)
def UniqR (C : List Rw) : Prop := ∀ x ∈ C, ∀ y ∈ C, keyR x = keyR y → x = y
theorem uniq_pair {C : List Rw} (h : C.Pairwise fun a b => keyR a ≠ keyR b) : UniqR C := by
  intro x hx y hy e
  induction C with
  | nil => cases hx
  | cons a C ih =>
    obtain ⟨h1, h2⟩ := List.pairwise_cons.1 h
    rcases List.mem_cons.1 hx with hx1 | hx1 <;> rcases List.mem_cons.1 hy with hy1 | hy1
    · rw [hx1, hy1]
    · subst hx1; exact absurd e (h1 y hy1)
    · subst hy1; exact absurd e.symm (h1 x hx1)
    · exact ih h2 hx1 hy1
theorem lat_perm (q : Rw → Bool) {L M : List Rw} (hp : L.Perm M) (hu : UniqR L) : latR q L = latR q M := by
  cases h1 : (latR q L).2 with
  | false =>
    have h2 : (latR q M).2 = false := by
      cases h2 : (latR q M).2 with
      | false => rfl
      | true =>
        obtain ⟨h3, h4⟩ := lat_in q M h2
        rw [(lat_ge q L _ (hp.mem_iff.2 h3) h4).1] at h1; cases h1
    rw [lat_rz h1, lat_rz h2]
  | true =>
    obtain ⟨h3, h4⟩ := lat_in q L h1
    obtain ⟨h5, h6⟩ := lat_ge q M _ (hp.mem_iff.1 h3) h4
    obtain ⟨h7, h8⟩ := lat_in q M h5
    obtain ⟨_, h9⟩ := lat_ge q L _ (hp.mem_iff.2 h7) h8
    have e : (latR q L).1 = (latR q M).1 := hu _ h3 _ (hp.mem_iff.2 h7) (by
      unfold gtH at h6 h9
      unfold keyR
      refine Prod.ext ?_ ?_
      · show (latR q L).1.hd.writer = (latR q M).1.hd.writer; omega
      · show (latR q L).1.hd.seq = (latR q M).1.hd.seq; omega)
    exact Prod.ext e (h1.trans h5.symm)
theorem made_perm (tok : Nat → Int) {L M : List Rw} (hp : L.Perm M) (hu : UniqR L) : madeI tok L = madeI tok M := by
  unfold madeI
  rw [lat_perm valuedR hp hu, lat_perm anyR hp hu, lat_perm knownR hp hu]
theorem made_nrm {a b : Nat → Int} (h : nrm a = nrm b) (L : List Rw) : nrmI (coreI (madeI a L)) = nrmI (coreI (madeI b L)) := by
  unfold madeI
  cases (latR valuedR L).2 && decide ((latR valuedR L).1.ch.op = 1) with
  | true => show It.mk (nrm a) _ _ _ _ _ _ _ _ _ = It.mk (nrm b) _ _ _ _ _ _ _ _ _; rw [h]; rfl
  | false => show It.mk (nrm a) _ _ _ _ _ _ _ _ _ = It.mk (nrm b) _ _ _ _ _ _ _ _ _; rw [h]; rfl
theorem ofRows_eq {a b : Nat → Int} (h : eqA 16 a b = true) (C : List Rw) : ofRows a C = ofRows b C := by
  unfold ofRows
  refine List.filter_congr fun r _ => ?_
  cases h1 : eqA 16 b r.hd.item with
  | true => exact eqA_trans h h1
  | false =>
    cases h2 : eqA 16 a r.hd.item with
    | false => rfl
    | true => rw [eqA_trans (eqA_symm h) h2] at h1; cases h1
theorem parts_has (C : List Rw) {r : Rw} (hr : r ∈ C) : ∃ p ∈ partsOf C, eqA 16 p.1 r.hd.item = true := by
  have h1 : lookP r.hd.item (partsOf C) = ofRows r.hd.item C := lookP_parts _ _
  have h2 : r ∈ ofRows r.hd.item C := List.mem_filter.2 ⟨hr, eqA_refl _ _⟩
  rw [← h1] at h2
  have key : ∀ (P : List ((Nat → Int) × List Rw)), r ∈ lookP r.hd.item P → ∃ p ∈ P, eqA 16 p.1 r.hd.item = true := by
    intro P
    induction P with
    | nil => intro h; cases h
    | cons p P ih =>
      obtain ⟨t, R⟩ := p
      intro h
      unfold lookP at h
      cases hq : eqA 16 r.hd.item t with
      | true => exact ⟨(t, R), by simp, eqA_symm hq⟩
      | false =>
        rw [hq] at h
        obtain ⟨p, h3, h4⟩ := ih h
        exact ⟨p, List.mem_cons_of_mem _ h3, h4⟩
  exact key _ h2
def itN (C : List Rw) (t : Nat → Int) : It := nrmI (coreI (madeI t (ofRows t C)))
theorem itN_eq {a b : Nat → Int} (h : eqA 16 a b = true) (C : List Rw) : itN C a = itN C b := by
  unfold itN
  rw [ofRows_eq h C]
  exact made_nrm (nrm_eq h) _
theorem foldN_mem (C : List Rw) (x : It) : x ∈ foldN C ↔ ∃ r ∈ C, x = itN C r.hd.item := by
  unfold foldN foldP
  constructor
  · intro h
    obtain ⟨y, h1, rfl⟩ := List.mem_map.1 h
    obtain ⟨p, h2, rfl⟩ := List.mem_map.1 h1
    obtain ⟨r, h3, h4⟩ := (parts_all C).2.2 p h2
    refine ⟨r, h3, ?_⟩
    unfold itN partI
    rw [← h4, ← parts_rows C h2]
  · rintro ⟨r, h1, rfl⟩
    obtain ⟨p, h2, h3⟩ := parts_has C h1
    refine List.mem_map.2 ⟨partI p, List.mem_map.2 ⟨p, h2, rfl⟩, ?_⟩
    rw [← itN_eq h3 C]
    unfold itN partI
    rw [← parts_rows C h2]
theorem foldN_nodup (C : List Rw) : (foldN C).Nodup := (foldN_apart C).imp (fun {a b} h e => h (by rw [e]))
theorem foldN_perm {C D : List Rw} (hp : C.Perm D) (hu : UniqR C) : (foldN C).Perm (foldN D) := by
  rw [List.perm_ext_iff_of_nodup (foldN_nodup C) (foldN_nodup D)]
  intro x
  have e : ∀ t, itN C t = itN D t := fun t => by
    unfold itN
    have h1 : (ofRows t C).Perm (ofRows t D) := hp.filter _
    rw [made_perm t h1 (fun x hx y hy => hu x (List.mem_filter.1 hx).1 y (List.mem_filter.1 hy).1)]
  rw [foldN_mem, foldN_mem]
  constructor
  · rintro ⟨r, h1, h2⟩; exact ⟨r, hp.mem_iff.1 h1, by rw [← e]; exact h2⟩
  · rintro ⟨r, h1, h2⟩; exact ⟨r, hp.mem_iff.2 h1, by rw [e]; exact h2⟩
def trnR (l : Nat → Rw) (n a i : Nat) : List Rw := (List.range i).map (fun k => l (n - 1 - (k + a) % n))
theorem trnR_succ (l : Nat → Rw) (n a i : Nat) : trnR l n a (i + 1) = trnR l n a i ++ [l (n - 1 - (i + a) % n)] := by
  unfold trnR; rw [List.range_succ, List.map_append]; rfl
theorem trnR_len (l : Nat → Rw) (n a i : Nat) : (trnR l n a i).length = i := by simp [trnR]
theorem rev_range (n : Nat) : ((List.range n).map (fun x => n - 1 - x)).Perm (List.range n) := by
  have h1 : ((List.range n).map (fun x => n - 1 - x)).Nodup := by
    refine List.Pairwise.map _ (fun {a b} (h : a < n ∧ b < n ∧ a ≠ b) => ?_) ?_ (R := fun a b => a < n ∧ b < n ∧ a ≠ b)
    · intro e; omega
    · rw [List.pairwise_iff_getElem]
      intro i j hi hj hij
      simp at hi hj ⊢
      omega
  rw [List.perm_ext_iff_of_nodup h1 List.nodup_range]
  intro a
  rw [List.mem_map, List.mem_range]
  constructor
  · rintro ⟨x, hx, rfl⟩
    have := List.mem_range.1 hx
    omega
  · intro ha
    exact ⟨n - 1 - a, List.mem_range.2 (by omega), by omega⟩
theorem trnR_perm (l : Nat → Rw) (n a : Nat) : (trnR l n a n).Perm (rowsL l n) := by
  have h1 : ((List.range n).map (fun i => n - 1 - (i + a) % n)).Perm (List.range n) := by
    have := (turn_perm n a).map (fun x => n - 1 - x)
    rw [List.map_map] at this
    exact this.trans (rev_range n)
  have h2 := h1.map l
  rw [List.map_map] at h2
  exact h2
theorem turned_counted {l : Nat → Rw} {n a : Nat} (hk : ∀ i, i < n → ∀ k, k < i → keyR (l i) ≠ keyR (l k)) :
    (foldN (counted l n)).Perm (foldN (counted (fun i => (trnR l n a n).getD i rz) (trnR l n a n).length)) := by
  have hpw : (rowsL l n).Pairwise fun x y => keyR x ≠ keyR y := by
    unfold rowsL
    rw [List.pairwise_map, List.pairwise_iff_getElem]
    intro i j hi hj hij
    simp at hi hj ⊢
    exact fun e => hk j hj i hij e.symm
  have hp := trnR_perm l n a
  have hpw2 : (trnR l n a n).Pairwise fun x y => keyR x ≠ keyR y := (hp.pairwise_iff (fun h e => h e.symm)).2 hpw
  have e1 : counted l n = (rowsL l n).filter formedR := by
    unfold counted
    rw [cnt_uniq _ [] hpw (fun r _ => rfl)]; rfl
  have e2 : counted (fun i => (trnR l n a n).getD i rz) (trnR l n a n).length = (trnR l n a n).filter formedR := by
    unfold counted
    rw [getL_rows, cnt_uniq _ [] hpw2 (fun r _ => rfl)]; rfl
  rw [e1, e2]
  exact foldN_perm (hp.symm.filter _) (fun x hx y hy => uniq_pair hpw x (List.mem_filter.1 hx).1 y (List.mem_filter.1 hy).1)
end Go.Proofs.Ytkdbjhlkahkobaa
/- filters as plain data -/
namespace Go.Proofs.Ytkdbjhlkahkobaa
open Jal Go.RowKit
set_option maxRecDepth 100000
structure Flt where
  all : Bool
  fp : Option Addr
  fn : Nat
  fc : Nat
  tag : Nat → ByteArray
def encF (f : Flt) : List Value := [.bool f.all, .slice f.fp f.fn f.fc]
theorem encF_len (f : Flt) : (encF f).length = 2 := rfl
def FlIn (w : World) (f : Flt) : Prop := Sl w f.fp f.fn 1 (fun i => encT (f.tag i))
def fz (a : Bool) : Flt := ⟨a, none, 0, 0, fun _ => ByteArray.empty⟩
theorem fzIn (w : World) (a : Bool) : FlIn w (fz a) := ⟨.inl rfl⟩
def idxN (p : Nat → Bool) (n : Nat) : Int := match (List.range n).find? p with | some i => (i : Int) | none => -1
theorem idxN_yes {p : Nat → Bool} {n i : Nat} (hi : i < n) (h : p i = true) (hb : ∀ j, j < i → p j = false) : idxN p n = (i : Int) := by
  unfold idxN
  rw [find_range hi h hb]
theorem idxN_no {p : Nat → Bool} {n : Nat} (hb : ∀ j, j < n → p j = false) : idxN p n = -1 := by
  unfold idxN
  rw [List.find?_range_eq_none.2 (fun j hj => by simpa using hb j hj)]
theorem idxN_ge (p : Nat → Bool) (n : Nat) : decide (idxN p n ≥ 0) = (List.range n).any p := by
  unfold idxN
  cases h : (List.range n).find? p with
  | none =>
    have h1 : (List.range n).any p = false := by
      rw [List.any_eq_false]
      intro x hx
      have := List.find?_range_eq_none.1 h x (List.mem_range.1 hx)
      simpa using this
    rw [h1]; rfl
  | some i =>
    have h2 := List.find?_range_eq_some.1 h
    have h1 : (List.range n).any p = true := List.any_eq_true.2 ⟨i, h2.2.1, h2.1⟩
    rw [h1]
    exact decide_eq_true (by show (0 : Int) ≤ (i : Int); omega)
def hasT (n : Nat) (t : Nat → ByteArray) (s : ByteArray) : Bool := (List.range n).any fun i => s.toList == (t i).toList
def rhasT (n : Nat) (t : Nat → ByteArray) (s : ByteArray) : Bool := (List.range n).any fun i => (t i).toList == s.toList
theorem rhas_eq (n : Nat) (t : Nat → ByteArray) (s : ByteArray) : rhasT n t s = hasT n t s := by
  unfold rhasT hasT
  congr 1
  funext i
  rw [Bool.eq_iff_iff, beq_iff_eq, beq_iff_eq]
  exact eq_comm
theorem rhas_yes {n i : Nat} {t : Nat → ByteArray} {s : ByteArray} (hi : i < n) (h : ((t i).toList == s.toList) = true) : rhasT n t s = true := List.any_eq_true.2 ⟨i, List.mem_range.2 hi, h⟩
theorem rhas_no {n : Nat} {t : Nat → ByteArray} {s : ByteArray} (h : ∀ j, j < n → ((t j).toList == s.toList) = false) : rhasT n t s = false := by
  unfold rhasT
  rw [List.any_eq_false]
  intro j hj
  rw [h j (List.mem_range.1 hj)]; simp
theorem any_succ (p : Nat → Bool) (b : Bool) (k : Nat) : ((b || (List.range k).any p) || p k) = (b || (List.range (k + 1)).any p) := by
  rw [List.range_succ, List.any_append, Bool.or_assoc]; simp
def showsB (f : Flt) (i : It) : Bool := bif !i.alive || !i.known then false else (f.all || (List.range i.gn).any fun k => hasT f.fn f.tag (i.tag k))
def rshowsB (f : Flt) (i : It) : Bool := (i.alive && i.known) && (f.all || (List.range i.gn).any fun k => rhasT f.fn f.tag (i.tag k))
theorem rshows_eq (f : Flt) (i : It) : rshowsB f i = showsB f i := by
  unfold rshowsB showsB
  have : (fun k => rhasT f.fn f.tag (i.tag k)) = fun k => hasT f.fn f.tag (i.tag k) := by funext k; exact rhas_eq _ _ _
  rw [this]
  cases i.alive <;> cases i.known <;> rfl
theorem shows_core {a b : It} (f : Flt) (h : nrmI (coreI a) = nrmI (coreI b)) : showsB f a = showsB f b := by
  have e : showsB f a = showsB f (nrmI (coreI a)) := rfl
  have e2 : showsB f b = showsB f (nrmI (coreI b)) := rfl
  rw [e, e2, h]
theorem shows_all (i : It) : showsB (fz true) i = (i.alive && i.known) := by
  unfold showsB fz
  cases i.alive <;> cases i.known <;> rfl
theorem shows_none (i : It) : showsB (fz false) i = false := by
  unfold showsB fz hasT
  cases i.alive <;> cases i.known <;> simp
def widerB (a b : Flt) : Bool := a.all || (!b.all && !(List.range b.fn).any fun k => !hasT a.fn a.tag (b.tag k))
def rwBad (a b : Flt) (k : Nat) : Bool := !a.all && !rhasT a.fn a.tag (b.tag k)
def rwiderB (a b : Flt) : Bool := bif (List.range b.fn).any (rwBad a b) then false else (a.all || !b.all)
theorem rwider_no {a b : Flt} {k : Nat} (hk : k < b.fn) (h : rwBad a b k = true) : rwiderB a b = false := by
  unfold rwiderB
  rw [List.any_eq_true.2 ⟨k, List.mem_range.2 hk, h⟩]; rfl
theorem rwider_yes {a b : Flt} (h : ∀ k, k < b.fn → rwBad a b k = false) : rwiderB a b = (a.all || !b.all) := by
  unfold rwiderB
  have : (List.range b.fn).any (rwBad a b) = false := by
    rw [List.any_eq_false]
    intro k hk
    rw [h k (List.mem_range.1 hk)]; simp
  rw [this]; rfl
theorem rwider_eq (a b : Flt) : rwiderB a b = widerB a b := by
  unfold rwiderB widerB
  have : rwBad a b = fun k => !a.all && !hasT a.fn a.tag (b.tag k) := by funext k; unfold rwBad; rw [rhas_eq]
  rw [this]
  cases a.all with
  | true => simp
  | false =>
    simp only [Bool.not_false, Bool.true_and, Bool.false_or]
    cases b.all <;> cases (List.range b.fn).any fun k => !hasT a.fn a.tag (b.tag k) <;> rfl
theorem wider_shows {a b : Flt} (hw : widerB a b = true) {i : It} (h : showsB b i = true) : showsB a i = true := by
  unfold showsB at h ⊢
  cases hc : !i.alive || !i.known with
  | true => rw [hc] at h; cases h
  | false =>
    rw [hc] at h
    simp only [cond_false] at h ⊢
    unfold widerB at hw
    cases ha : a.all with
    | true => rfl
    | false =>
      rw [ha, Bool.false_or, Bool.and_eq_true] at hw
      obtain ⟨h1, h2⟩ := hw
      have hb : b.all = false := by simpa using h1
      rw [hb, Bool.false_or, List.any_eq_true] at h
      obtain ⟨k, hk, h3⟩ := h
      rw [Bool.false_or, List.any_eq_true]
      refine ⟨k, hk, ?_⟩
      unfold hasT at h3
      rw [List.any_eq_true] at h3
      obtain ⟨j, hj, h4⟩ := h3
      have h5 : hasT a.fn a.tag (b.tag j) = true := by
        cases h6 : hasT a.fn a.tag (b.tag j) with
        | true => rfl
        | false =>
          have : (List.range b.fn).any (fun k => !hasT a.fn a.tag (b.tag k)) = true := List.any_eq_true.2 ⟨j, hj, by rw [h6]; rfl⟩
          rw [this] at h2; cases h2
      unfold hasT at h5 ⊢
      rw [eq_of_beq h4]; exact h5
def someR (f : Flt) (i : It) : Nat → Bool
  | 0 => f.all
  | k + 1 => someR f i k || rhasT f.fn f.tag (i.tag k)
theorem someR_eq (f : Flt) (i : It) : ∀ k, someR f i k = (f.all || (List.range k).any fun k => rhasT f.fn f.tag (i.tag k))
  | 0 => by simp [someR]
  | k + 1 => by
    show (someR f i k || _) = _
    rw [someR_eq f i k, any_succ (fun k => rhasT f.fn f.tag (i.tag k))]
def sumT (f : Flt) : Nat → Int
  | 0 => 0
  | k + 1 => sumT f k + min ((f.tag k).size : Int) 1000
theorem sumT_le (f : Flt) : ∀ k, 0 ≤ sumT f k ∧ sumT f k ≤ k * 1000
  | 0 => by unfold sumT; omega
  | k + 1 => by
    have := sumT_le f k
    unfold sumT
    omega
def fewF (f : Flt) : Bool := decide ((f.fn : Int) ≤ 20) && decide (sumT f (min f.fn 100) ≤ 1000)
theorem fewF_fn {f : Flt} (h : fewF f = true) : f.fn ≤ 20 := by
  unfold fewF at h
  rw [Bool.and_eq_true, decide_eq_true_eq] at h
  omega
end Go.Proofs.Ytkdbjhlkahkobaa
/- walks, printed by a program of ours -/
namespace Go.Proofs.Ytkdbjhlkahkobaa
open Jal Go.RowKit
set_option maxRecDepth 100000
theorem gh_sub {G : List Gp} {g : Gp} (h : g ∈ G) : g.oe.Sublist (gh G) := by
  induction G with
  | nil => cases h
  | cons x G ih =>
    show g.oe.Sublist (x.oe ++ gh G)
    rcases List.mem_cons.1 h with rfl | h
    · exact List.sublist_append_left _ _
    · exact (ih h).trans (List.sublist_append_right _ _)
theorem setB_own {w : World} {i : Nat} {o : Obj} (h : w.heap[i]? = some o) : setB w i o = w := by
  unfold setB
  have : w.heap.setIfInBounds i o = w.heap := by
    apply Array.ext_getElem?
    intro k
    rw [Array.getElem?_setIfInBounds]
    by_cases hk : i = k
    · subst hk
      rw [if_pos rfl, if_pos (Array.getElem?_eq_some_iff.1 h).1, h]
    · rw [if_neg hk]
  rw [this]

set_option maxHeartbeats 2000000 in
theorem fold_calls (w : World) (p : Option Addr) (n c : Nat) (l : Nat → Rw) (hn : n ≤ 100) (hl : Sl w p n 130 (fun i => encR (l i))) (hx : ∀ i, i < n → RwIn w (l i)) (kx : ∀ i, i < n → RwOk (l i)) (fx : ∀ i, i < n → (l i).hd.tn ≤ 20 ∧ (l i).ch.gn ≤ 20) : Calls Try.prog 56 #[.slice p n c] w (FoldR (counted l n) w) := by
  refine fn_calls (n := 23) Try.func56 rfl rfl (lb rfl) ?_
  refine cseq ?_
  refine creg ?_
  refine l1 (asg rfl) ?_
  refine lnil ?_
  refine nthen ?_
  refine cseq ?_
  refine creg ?_
  refine l1 (asg rfl) ?_
  refine lnil ?_
  refine nthen ?_
  refine cseq ?_
  refine cseq ?_
  refine creg ?_
  refine l1 (mvs rfl) ?_
  refine lclB hb86 rfl (mc rfl mn) (Φ := PartF' l n) (fun w' hw => (parted_calls w' p n c l hn (Sl.keptS hl hw) (fun i hi => (hx i hi).keptS hw) kx).mono (fun e w2 h => h.base')) ?_
  rintro v7 W H7 ⟨r, G, rfl, rfl, hlr, hor, hok, hpg, hlen⟩ hU
  refine lrng (kv := kv34) Try.underlying117 rfl hlr hor (fun wv hv w1 hw1 => ?_)
  subst hw1
  have hbv : Below w.heap.size w wv := (hU wv hv).below
  have hrv : r < wv.heap.size := Nat.lt_of_lt_of_le hlr hv.below.size
  have horv : wv.heap[r]? = some (mob kv34 (gm G)) := (hv.below.block r hlr).trans hor
  have hgl : ∀ g ∈ G, g.oe.Sublist (gh G) := fun g hg => gh_sub hg
  have hGn : G.length ≤ n := by (have h1 := (parts_all (counted l n)).2.1; have h2 := counted_len l n; rw [← hpg] at h1; unfold pg at h1; rw [List.length_map] at h1; omega)
  refine lnil ?_
  refine nthen ?_
  refine cblock ?_
  refine cloopB (σ := FldS) (fun s => (setB (wv.alloc (itO r (gm G).length #[])) wv.heap.size (itO r (gm G).length s.seen.toArray))) (fun s => [(3, s.v), (8, .pointer (some ⟨wv.heap.size, 0, none⟩))]) (fun s => s.oe ++ s.tl) (fun s => FldOk G s) (fun s => G.length - s.seen.length) ⟨[], [], .slice none 0 0, [], []⟩ (setB_own (heap_alloc_new _ _)) (FldOk.start G) ⟨rfl, rfl, trivial⟩ (List.Sublist.refl _) ?_
  rintro ⟨seen, acc, v3, oe, tl⟩ j hF
  obtain ⟨p3, c3, rfl⟩ := OwnL.form (show OwnL 83 146 v3 acc.length (acc.flatMap encI) oe from hF.own)
  have hown : OwnL 83 146 (.slice p3 acc.length c3) acc.length (acc.flatMap encI) oe := hF.own
  have hacc : acc.length ≤ 100 := by (have h1 := hF.len; have h2 : acc.length = seen.length := h1.1; have h3 : seen.length ≤ G.length := h1.2; omega)
  obtain ⟨B, hB⟩ : ∃ B, B = (setB (wv.alloc (itO r (gm G).length #[])) wv.heap.size (itO r (gm G).length seen.toArray)) := ⟨_, rfl⟩
  show WC _ _ (setB (wv.alloc (itO r (gm G).length #[])) wv.heap.size (itO r (gm G).length seen.toArray)) (oe ++ tl) _ _ (over j [(3, .slice p3 acc.length c3), (8, .pointer (some ⟨wv.heap.size, 0, none⟩))])
  rw [← hB]
  have hbB : Below wv.heap.size wv B := by rw [hB]; exact Below_setB ((Below.refl _ _).alloc (Nat.le_refl _) _) (Nat.le_refl _) _
  have hiB : B.heap[wv.heap.size]? = some (itO r (gm G).length seen.toArray) := by rw [hB]; exact setB_same (by show wv.heap.size < (wv.heap.push _).size; rw [Array.size_push]; omega)
  have hsB : wv.heap.size < B.heap.size := (Array.getElem?_eq_some_iff.1 hiB).1
  have hrB : B.heap[r]? = some (mob kv34 (gm G)) := (hbB.block r hrv).trans horv
  refine cseq ?_
  refine creg ?_
  refine lnxt (kv := kv34) rfl hsB hiB (Nat.lt_trans hrv hsB) hrB (fun hall => ?_) (fun jx a vx hj hns => ?_)
  · skip
    refine l1 (ext (vs := [.bool false]) rfl rfl) ?_
    refine lnil ?_
    refine nthen ?_
    refine cseq ?_
    refine ciff rfl ?_
    refine cexit ?_
    refine nthenE ?_
    refine nIE ?_
    refine nblkE ?_
    refine nthen ?_
    refine cseq ?_
    refine creg ?_
    refine l1 (mvs rfl) ?_
    have hperm := hF.done (fun j hj => by (have := hall j (by unfold gm; rw [List.length_map]; exact hj); simpa using this)) hpg
    refine lcls (oe ++ tl) hb92 rfl (mc rfl (mc rfl mn)) (fun w' hw => sortI_calls B w' tl oe _ acc (fold_tokB hperm (cnt_ok kx)) (by show acc.length ≤ 1000; omega) hw hown) ⟨_, List.Perm.refl _, List.Sublist.refl _⟩ ?_
    rintro v21 H21 ⟨rfl, L, oe2, rfl, hown2, hpm, hsrt⟩
    have hLl : L.length = acc.length := hpm.length_eq
    rw [← hLl]
    refine lnil ?_
    refine nthen ?_
    refine cseq ?_
    refine creg ?_
    refine l1 (mvs rfl) ?_
    refine l1 (asg rfl) ?_
    refine lnil ?_
    refine nthen ?_
    refine cret ?_
    exact nq_imp (fun w' hw => Sat.rebase (hbv.trans (hbB.mono hbv.size)) hw) (finM (.slice p3 L.length c3) (oe2 ++ tl) (rv1 rfl (rvt rfl)) ⟨_, List.Perm.refl _, List.Sublist.refl _⟩ ⟨L, oe2, tl, rfl, by rw [← hLl] at hown2; exact hown2, fun i hi => hF.mem i (hpm.mem_iff.1 hi), (hpm.map _).trans hperm, hsrt⟩)
  · skip
    obtain ⟨gx, hgx, hgm, rfl, rfl⟩ := gm_get hj
    obtain ⟨pg, cg, hgv⟩ := (show OwnL 79 130 gx.v gx.rows.length (gx.rows.flatMap encR) gx.oe from hok gx hgm).form
    obtain ⟨B2, hB2⟩ : ∃ B2, B2 = setB B wv.heap.size (itO r (gm G).length (seen.toArray.push jx)) := ⟨_, rfl⟩
    rw [← hB2]
    have hbB2 : Below wv.heap.size wv B2 := by rw [hB2]; exact Below_setB hbB (Nat.le_refl _) _
    have hiB2 : B2.heap[wv.heap.size]? = some (itO r (gm G).length (seen.toArray.push jx)) := by rw [hB2]; exact setB_same hsB
    have hsB2 : wv.heap.size < B2.heap.size := (Array.getElem?_eq_some_iff.1 hiB2).1
    have hrB2 : B2.heap[r]? = some (mob kv34 (gm G)) := (hbB2.block r hrv).trans horv
    have hsl : Sl wv pg gx.rows.length 130 (fun i => encR (gx.rows.getD i rz)) := by (have h1 := hok gx hgm; unfold GpOk at h1; rw [hgv] at h1; exact SlIn.sl (h1.slInL (fun a => rfl) (fun i hi => ⟨_, getD_getR hi, rfl⟩)) (hv.sub (hgl gx hgm)))
    have hrows : gx.rows = ofRows gx.tok (counted l n) := parts_rows (counted l n) (by rw [← hpg]; exact List.mem_map.2 ⟨gx, hgm, rfl⟩)
    have hrg : ∀ i, i < gx.rows.length → ∃ q, q < n ∧ gx.rows.getD i rz = l q := fun i hi => by (have hi2 := hi; rw [hrows] at hi2; obtain ⟨q, h1, h2⟩ := ofRows_get hi2; exact ⟨q, h1, by rw [hrows]; exact h2⟩)
    have hgr : gx.rows.length ≤ 100 := by (have := hlen gx hgm; omega)
    refine l1 (ext (vs := [.bool true, kv34 gx.tok, gx.v]) rfl rfl) ?_
    refine lnil ?_
    refine nthen ?_
    refine cseq ?_
    refine cift rfl ?_
    refine cskip ?_
    refine nthen ?_
    refine cblock ?_
    refine cseq ?_
    refine creg ?_
    refine lent (kv := kv34) (a := gx.tok) (v := gx.v) rfl hsB2 hiB2 (Nat.lt_trans hrv hsB2) hrB2 hj ?_
    rw [hgv]
    refine l1 (ext (vs := [.agg (arr .u8 16 gx.tok).toArray, .slice pg gx.rows.length cg]) rfl rfl) ?_
    refine l1 (ext (vs := [.agg (arr .u8 16 gx.tok).toArray, .slice pg gx.rows.length cg]) rfl rfl) ?_
    refine lal Try.zeroValue34 rfl (fun b1 => ?_)
    refine wl_perm (ins_perm 0 _ _) ?_
    refine lstw 0 rfl rfl rfl Try.sizeOf34 rfl rfl rfl ?_
    refine l1 (asg rfl) ?_
    refine lnil ?_
    refine nthen ?_
    refine creg ?_
    refine l1 (mvs rfl) ?_
    refine l1 (ldw 0 Try.isAgg34 Try.sizeOf34 rfl rfl rfl) ?_
    refine l1 (mvs rfl) ?_
    refine lclm hb87 rfl (mc rfl (mc rfl mn)) (fun w' hw => made_item_calls w' gx.tok pg gx.rows.length cg (fun i => gx.rows.getD i rz) hgr ((hsl.kept hbB2).kept (hw.below.mono (Nat.le_refl _))) (fun i hi => by (obtain ⟨q, h1, h2⟩ := hrg i hi; rw [h2]; exact (hx q h1).keptS (H := []) ⟨(hbv.trans (hbB2.mono hbv.size)).trans (hw.below.mono (Nat.le_trans hbv.size hbB2.size)), fun e he => absurd he (by simp), .nil⟩)) (fun i hi => by (obtain ⟨q, h1, h2⟩ := hrg i hi; rw [h2]; exact fx q h1))) ?_
    rintro v17 Hn ⟨I, rfl, hI, hIn⟩
    rw [getL_rows] at hI
    refine wl_tail 1 ?_
    refine lbs Try.underlying90 rfl (bs90 I) (fun b2 => ?_)
    refine wl_perm (ins_perm 1 _ _) ?_
    refine lapp2 [_, _] tl Hn oe el90 rfl rfl hown rfl (news := encI I) rfl (fun w' hw => by have := hw.mem (i := 1) rfl 0; simpa using this) (encI_one _) (by decide) (by unfold maxLen; omega) (by omega) ?_
    intro g19 c19 o19 k19
    have hnx := hF.next hgx (by simpa using hns) hI hIn k19
    refine l1 (asg rfl) ?_
    refine lnil ?_
    refine nblkN ?_
    exact nIB ⟨seen ++ [jx], acc ++ [I], .slice (some ⟨g19, 0, none⟩) (acc.length + 1) c19, o19, tl ++ Hn⟩ (by rw [hB2, hB, setB_setB, List.push_toArray]) hnx.1 hnx.2 ⟨rfl, rfl, trivial⟩ (List.Sublist.cons _ (List.Sublist.cons _ (List.Sublist.refl _)))
end Go.Proofs.Ytkdbjhlkahkobaa
/- walks, printed by a program of ours -/
namespace Go.Proofs.Ytkdbjhlkahkobaa
open Jal Go.RowKit
set_option maxRecDepth 100000
theorem own_flat {e : TypeId} {sz : Nat} {p : Option Addr} {m c : Nat} {xs : List Value} {oe : List Ent} (h : OwnL e sz (.slice p m c) m xs oe) (hm : 0 < m) {H : List Ent} (hs : oe.Sublist H) : ∃ ad, p = some ad ∧ ∀ w0 w, Sat w0 H w → Mem w ad xs := by
  rcases h.2 with ⟨_, h0, _⟩ | ⟨g, cap, cur, h1, rfl, _, _, _, ht⟩
  · omega
  · cases h1
    refine ⟨_, rfl, fun w0 w hw j v hv => ?_⟩
    refine (hw.sub hs).mem (i := 0) (e := ⟨g, cur, e⟩) rfl 0 j v ?_
    rw [← ht, List.getElem?_take] at hv
    split at hv
    · simpa using hv
    · cases hv
theorem all_getD {Pr : Rw → Prop} {L : List Rw} (h : ∀ r ∈ L, Pr r) : ∀ i, i < L.length → Pr (L.getD i rz) := fun i hi => h _ (by rw [List.getD_eq_getElem?_getD, List.getElem?_eq_getElem hi]; exact List.getElem_mem hi)
theorem twc_mem {l : Nat → Rw} {n : Nat} {r : Rw} (h : r ∈ twcL l n) : ∃ j, j < n ∧ r = l j := (List.mem_append.1 h).elim frm_mem frm_mem
theorem trnR_mem {l : Nat → Rw} {n a i : Nat} {r : Rw} (h : r ∈ trnR l n a i) (h0 : 0 < n) : ∃ j, j < n ∧ r = l j := by
  obtain ⟨k, _, h2⟩ := List.mem_map.1 h
  exact ⟨_, by omega, h2.symm⟩
theorem cnt_gn {l : Nat → Rw} {n m : Nat} (k : ∀ i, i < n → (l i).ch.gn ≤ m) : ∀ r ∈ counted l n, r.ch.gn ≤ m := fun r hr => by
  obtain ⟨j, h1, rfl, _⟩ := cnt_mem l n r hr
  exact k j h1
theorem key_ne {l : Nat → Rw} {i k : Nat} (h : (decide ((l i).hd.writer = (l k).hd.writer) && decide ((l i).hd.seq = (l k).hd.seq)) = false) : keyR (l i) ≠ keyR (l k) := fun e => by
  have h1 : (l i).hd.writer = (l k).hd.writer := congrArg Prod.fst e
  have h2 : (l i).hd.seq = (l k).hd.seq := congrArg Prod.snd e
  rw [h1, h2] at h
  simp at h

set_option maxHeartbeats 2000000 in
theorem twice_law (w : World) (p : Option Addr) (n c : Nat) (l : Nat → Rw) (hn : (n : Int) ≤ 9223372036854775807) (hl : Sl w p n 130 (fun i => encR (l i))) (hx : ∀ i, i < n → RwIn w (l i)) (kx : ∀ i, i < n → RwOk (l i)) : Calls Try.prog 16 #[.slice p n c] w (Ret (.bool true) w) := by
  refine fn_calls (n := 70) Try.func16 rfl rfl (lb rfl) ?_
  refine cseq ?_
  refine creg ?_
  refine l1 (asg rfl) ?_
  refine lnil ?_
  refine nthen ?_
  refine cseq ?_
  refine cseq ?_
  refine creg ?_
  refine l1 (cl hb29 rfl mn (fun w hw => awake18_calls w)) ?_
  refine l1 (nt rfl) ?_
  refine l1 (mvb rfl) ?_
  refine l1g rfl (gwf rfl) (fun h => mvs rfl) ?_
  refine l1g rfl (gwf rfl) (fun h => cl hb48 rfl (mc (gvt h) (mc rfl mn)) (fun w hw => fewrows_calls w p n c l 25 hn (Sl.keptS hl hw) (fun i hi => (hx i hi).keptS hw) kx)) ?_
  refine l1g rfl (gwf rfl) (fun h => nt (gvt h)) ?_
  refine l1 (pk_or rfl rfl rfl) ?_
  refine lnil ?_
  refine nthen ?_
  refine cif rfl (fun h1 => ?_) (fun h1 => ?_)
  · skip
    refine cseq ?_
    refine creg ?_
    refine l1 (cl hb29 rfl mn (fun w hw => awake18_calls w)) ?_
    refine l1 (asg rfl) ?_
    refine lnil ?_
    refine nthen ?_
    refine cret ?_
    refine nthenR ?_
    exact fin1b rfl rfl (by first | rfl | (rw [hsm.1]; simp))
  · have hF0 : fewR l n 25 = true := by (simpa using h1)
    have hn40 := (fewR_row hF0 (by decide)).1
    have hfx : ∀ i, i < n → (l i).hd.tn ≤ 20 ∧ (l i).ch.gn ≤ 20 := fun i hi => fewRow_le ((fewR_row hF0 (by decide)).2 i hi)
    have hcl := counted_len l n
    refine cskip ?_
    refine nthen ?_
    refine cseq ?_
    refine creg ?_
    refine l1 (asg rfl) ?_
    refine lnil ?_
    refine nthen ?_
    refine cseq ?_
    refine cseq ?_
    refine creg ?_
    refine l1 (asgi rfl) ?_
    refine lnil ?_
    refine nthen ?_
    refine cblock ?_
    refine cloopI (σ := Nat × Value × List Ent) (fun s => [(0, .slice p n c), (3, s.2.1), (4, .int .i64 (s.1 : Int))]) (fun s => ([] ++ (s.2.2))) (fun s => s.1 ≤ n ∧ OwnL 79 130 s.2.1 (frmL l s.1).length ((frmL l s.1).flatMap encR) s.2.2) (fun s => n - s.1) (0, .slice none 0 0, []) ⟨Nat.zero_le _, OwnL.nil 79 130⟩ ⟨rfl, rfl, rfl, trivial⟩ (List.Sublist.refl _) ?_
    rintro ⟨i, v3, oe⟩ j hI; replace hI : i ≤ n ∧ OwnL 79 130 v3 (frmL l i).length ((frmL l i).flatMap encR) oe := hI; obtain ⟨p3, c3, rfl⟩ := hI.2.form
    show WC _ _ _ ((oe)) _ _ (over j [(0, .slice p n c), (3, .slice p3 (frmL l i).length c3), (4, .int .i64 (i : Int))])
    have hown := hI.2; have hfl := frm_len l i
    refine cseq ?_
    refine cseq ?_
    refine creg ?_
    refine l1 (mvi rfl) ?_
    refine l1 (mvs rfl) ?_
    refine l1 (lens sl74 rfl rfl) ?_
    refine l1 (lss rfl rfl) ?_
    refine lnil ?_
    refine nthen ?_
    refine cif rfl (fun h2 => ?_) (fun h2 => ?_)
    · have hlt : i < n := by (have := dt h2; omega)
      obtain ⟨b, o, hp, hbl, hm⟩ := hl.at hlt
      refine cskip ?_
      refine nthen ?_
      refine cseq ?_
      refine cblock ?_
      refine cseq ?_
      refine creg ?_
      refine l1 (mvs rfl) ?_
      refine l1 (mvi rfl) ?_
      refine l1 (isp sl74 hp rfl rfl (by omega) (by omega)) ?_
      refine l1 (ldam (vs := encR (l i)) Try.isAgg79 Try.sizeOf79 rfl rfl (fun w' hw => (hm i hlt).kept hw.below hbl)) ?_
      refine l1 (cl hb54 rfl (mc rfl mn) (fun w hw => rowformed_calls (l i) w ((hx i hlt).keptS hw) (kx i hlt))) ?_
      refine lnil ?_
      refine nthen ?_
      refine cif rfl (fun h3 => ?_) (fun h3 => ?_)
      · skip
        refine creg ?_
        refine l1 (mvs rfl) ?_
        refine l1 (mvs rfl) ?_
        refine l1 (mvi rfl) ?_
        refine l1 (isp sl74 hp rfl rfl (by omega) (by omega)) ?_
        refine l1 (ldam (vs := encR (l i)) Try.isAgg79 Try.sizeOf79 rfl rfl (fun w' hw => (hm i hlt).kept hw.below hbl)) ?_
        refine lbs Try.underlying74 rfl (bs74 (l i)) (fun b1 => ?_)
        refine wl_perm (ins_perm 0 _ _) ?_
        refine lapp [_] [] oe el74 (by rw [List.append_nil]; rfl) rfl hown rfl (news := encR (l i)) rfl (fun w' hw => by have := hw.mem (i := 0) rfl 0; simpa using this) (encR_one _) (by decide) (by unfold maxLen; omega) (by omega) ?_
        intro g' cap oe' hown'
        rw [List.append_nil]
        refine l1 (asg rfl) ?_
        refine lnil ?_
        refine nblkN ?_
        refine nthen ?_
        refine creg ?_
        refine l1 (mvi rfl) ?_
        first | refine l1 (addn rfl rfl (ri (by omega) (by omega))) ?_ | refine l1 (add rfl rfl) ?_
        refine l1 (asgi rfl) ?_
        refine lnil ?_
        exact nI (i + 1, .slice (some ⟨g', 0, none⟩) ((frmL l i).length + 1) cap, oe') ⟨by omega, by rw [frm_yes h3, List.flatMap_append, List.length_append]; simpa using hown'⟩ (by show n - (i + 1) < n - i; omega) ⟨rfl, rfl, rfl, trivial⟩ (List.Sublist.cons _ (List.Sublist.refl _))
      · skip
        refine cskip ?_
        refine nblkN ?_
        refine nthen ?_
        refine creg ?_
        refine l1 (mvi rfl) ?_
        first | refine l1 (addn rfl rfl (ri (by omega) (by omega))) ?_ | refine l1 (add rfl rfl) ?_
        refine l1 (asgi rfl) ?_
        refine lnil ?_
        exact nI (i + 1, .slice p3 (frmL l i).length c3, oe) ⟨by omega, by rw [frm_no h3]; exact hown⟩ (by show n - (i + 1) < n - i; omega) ⟨rfl, rfl, rfl, trivial⟩ (List.Sublist.refl _)
    · have hin : n = i := by (have := df h2; omega)
      subst hin
      refine cexit ?_
      refine nthenE ?_
      refine nIE ?_
      refine nblkE ?_
      refine nthen ?_
      refine cseq ?_
      refine creg ?_
      refine l1 (mvs rfl) ?_
      refine lclm hb56 rfl (mc rfl mn) (fun w' hw => fold_calls w' p n c l (by omega) (Sl.keptS hl hw) (fun i hi => (hx i hi).keptS hw) kx hfx) ?_
      rintro v1 H1 ⟨L1, oe1, tl1, rfl, hF1⟩
      obtain ⟨p1, c1, rfl⟩ := hF1.own.form
      have hH1 := fold_hd hF1.perm (cnt_ok kx)
      have hG1 := fold_gn (m := 20) hF1.perm (cnt_gn (fun i hi => (hfx i hi).2))
      have hL1 := fold_len hF1.perm
      refine lbs Try.underlying74 rfl (bs74z) (fun b2 => ?_)
      refine wl_perm (ins_perm 0 _ _) ?_
      refine l1 (mvs rfl) ?_
      refine lappx [] _ [_] (news := (frmL l n).flatMap encR) el74 rfl rfl ⟨rfl, .inr ⟨_, 0, [], rfl, rfl, Nat.le_refl _, by decide, rfl, rfl⟩⟩ rfl (by rw [flatM_len encR_len]) (fun h0 => by obtain ⟨ad, h1, h2⟩ := own_flat hown h0 (H := _) (List.Sublist.cons _ (List.sublist_append_left _ _)); exact ⟨ad, h1, fun w' hw => h2 _ w' hw⟩) (fun u hu => by obtain ⟨r, _, hr⟩ := List.mem_flatMap.1 hu; exact encR_one r u hr) (by unfold maxLen; omega) (by omega) ?_
      intro g11 cap11 oe11 hown11
      obtain ⟨cur11, rfl⟩ := hown11.blk
      refine l1 (mvs rfl) ?_
      refine lappx [] _ [_] (news := (frmL l n).flatMap encR) el74 rfl rfl hown11 rfl (by rw [flatM_len encR_len]) (fun h0 => by obtain ⟨ad, h1, h2⟩ := own_flat hown h0 (H := _) (List.Sublist.cons _ (List.sublist_append_left _ _)); exact ⟨ad, h1, fun w' hw => h2 _ w' hw⟩) (fun u hu => by obtain ⟨r, _, hr⟩ := List.mem_flatMap.1 hu; exact encR_one r u hr) (by unfold maxLen; omega) (by omega) ?_
      intro g12 cap12 oe12 hown12
      obtain ⟨cur12, rfl⟩ := hown12.blk
      have hown3 : OwnL 79 130 (.slice (some ⟨g12, 0, none⟩) (twcL l n).length cap12) (twcL l n).length ((twcL l n).flatMap encR) [⟨g12, cur12, 79⟩] := by unfold twcL; rw [List.length_append, List.flatMap_append]; simpa using hown12
      have htl : (twcL l n).length ≤ 100 := by unfold twcL; rw [List.length_append]; omega
      have htk : ∀ i, i < (twcL l n).length → RwOk ((twcL l n).getD i rz) := all_getD (fun r hr => by obtain ⟨j, h1, rfl⟩ := twc_mem hr; exact kx j h1)
      have htg : ∀ i, i < (twcL l n).length → ((twcL l n).getD i rz).hd.tn ≤ 20 ∧ ((twcL l n).getD i rz).ch.gn ≤ 20 := all_getD (Pr := fun r => r.hd.tn ≤ 20 ∧ r.ch.gn ≤ 20) (fun r hr => by obtain ⟨j, h1, rfl⟩ := twc_mem hr; exact hfx j h1)
      refine lclm hb56 rfl (mc (show _ = Value.slice (some ⟨g12, 0, none⟩) (twcL l n).length cap12 by unfold twcL; rw [List.length_append]; first | rfl | (simp only [Nat.zero_add]; rfl)) mn) (fun w' hw => fold_calls w' (some ⟨g12, 0, none⟩) (twcL l n).length cap12 (fun i => (twcL l n).getD i rz) htl (SlIn.sl ((hown3.slInL (fun a => rfl) (fun i hi => ⟨_, getD_getR hi, rfl⟩)).mono (fun e he => by obtain rfl := List.mem_singleton.1 he; simp)) hw) (all_getD (fun r hr => by obtain ⟨j, h1, rfl⟩ := twc_mem hr; exact (hx j h1).keptS hw)) htk htg) ?_
      rintro v2 H2 ⟨L2, oe2, tl2, rfl, hF2⟩
      rw [twice_counted] at hF2
      have hsm := map_same (fold_eq (List.Perm.refl _) hF1.perm hF2.perm hF1.srt hF2.srt)
      obtain ⟨p2, c2, rfl⟩ := hF2.own.form
      have hH2 := fold_hd hF2.perm (cnt_ok kx)
      have hG2 := fold_gn (m := 20) hF2.perm (cnt_gn (fun i hi => (hfx i hi).2))
      have hL2 := fold_len hF2.perm
      refine l1 (asg rfl) ?_
      refine l1 (asg rfl) ?_
      refine lnil ?_
      refine nthen ?_
      refine cseq ?_
      refine cseq ?_
      refine creg ?_
      refine l1 (asgi rfl) ?_
      refine lnil ?_
      refine nthen ?_
      refine cblock ?_
      refine cloopI (σ := Nat) (fun s => [(5, .slice p1 L1.length c1), (6, .slice p2 L2.length c2), (7, .int .i64 (s : Int))]) (fun s => ([] ++ ((oe1 ++ tl1) ++ (oe2 ++ tl2)))) (fun s => s ≤ L1.length) (fun s => L1.length - s) 0 (Nat.zero_le _) ⟨rfl, rfl, rfl, trivial⟩ ((show List.Sublist ((oe1 ++ tl1) ++ (oe2 ++ tl2)) ((_ :: (oe ++ (oe1 ++ tl1))) ++ (oe2 ++ tl2)) from List.Sublist.append (List.Sublist.cons _ (List.sublist_append_right _ _)) (List.Sublist.refl _))) ?_
      rintro i j hi
      show WC _ _ _ (((oe1 ++ tl1) ++ (oe2 ++ tl2))) _ _ (over j [(5, .slice p1 L1.length c1), (6, .slice p2 L2.length c2), (7, .int .i64 (i : Int))])
      replace hi : i ≤ L1.length := hi
      refine cseq ?_
      refine cseq ?_
      refine creg ?_
      refine l1 (mvi rfl) ?_
      refine l1 (mvs rfl) ?_
      refine l1 (lens sl90 rfl rfl) ?_
      refine l1 (lss rfl rfl) ?_
      refine l1 (mvb rfl) ?_
      refine l1g rfl (gwt rfl) (fun h => mvs rfl) ?_
      refine l1g rfl (gwt rfl) (fun h => lens sl90 rfl (gvt h)) ?_
      refine l1g rfl (gwt rfl) (fun h => mvs rfl) ?_
      refine l1g rfl (gwt rfl) (fun h => lens sl90 rfl (gvt h)) ?_
      refine l1g rfl (gwt rfl) (fun h => eql (gvt h) (gvt h)) ?_
      refine l1 (pk_and rfl rfl rfl) ?_
      refine lnil ?_
      refine nthen ?_
      refine cif rfl (fun h4 => ?_) (fun h4 => ?_)
      · have hlt : i < L1.length := by (have := al h4; simpa using this)
        have hlt2 : i < L2.length := by (rw [← hsm.1]; exact hlt)
        obtain ⟨g1x, hp1, hm1⟩ := own_itm hF1.own rfl hlt
        obtain ⟨g2x, hp2, hm2⟩ := own_itm hF2.own rfl hlt2
        refine cskip ?_
        refine nthen ?_
        refine cseq ?_
        refine cblock ?_
        refine cseq ?_
        refine cregq mo (by kernel_rfl) ?_
        refine q1 (mvs rfl) ?_
        refine q1 (mvi rfl) ?_
        refine q1 (isp sl90 hp1 rfl rfl (by omega) (by omega)) ?_
        refine q1 (ldam (vs := encI (L1.getD i iz)) Try.isAgg83 Try.sizeOf83 rfl rfl (fun w' hw => hm1 _ _ _ hw (List.Sublist.trans (List.sublist_append_left oe1 tl1) (List.sublist_append_left _ _)))) ?_
        refine q1 (mvs rfl) ?_
        refine q1 (mvi rfl) ?_
        refine q1 (isp sl90 hp2 rfl rfl (by omega) (by omega)) ?_
        refine q1 (ldam (vs := encI (L2.getD i iz)) Try.isAgg83 Try.sizeOf83 rfl rfl (fun w' hw => hm2 _ _ _ hw (List.Sublist.trans (List.sublist_append_left oe2 tl2) (List.sublist_append_right _ _)))) ?_
        refine q1 (cl hb53 rfl (mc rfl (mc rfl mn)) (fun w hw => rsameI_calls (L1.getD i iz) (L2.getD i iz) w ((hF1.mem _ (getD_memI hlt)).sat (hw.sub (List.Sublist.trans (List.sublist_append_right oe1 tl1) (List.sublist_append_left _ _)))) ((hF2.mem _ (getD_memI hlt2)).sat (hw.sub (List.Sublist.trans (List.sublist_append_right oe2 tl2) (List.sublist_append_right _ _)))) (hH1 _ (getD_memI hlt)) (hH2 _ (getD_memI hlt2)) (by have := hG1 _ (getD_memI hlt); omega))) ?_
        refine q1 (nt rfl) ?_
        refine qnil ?_
        refine nthen ?_
        refine ciff (bf rfl (by rw [hsm.2 i hlt]; rfl)) ?_
        refine cskip ?_
        refine nblkN ?_
        refine nthen ?_
        refine creg ?_
        refine l1 (mvi rfl) ?_
        first | refine l1 (addn rfl rfl (ri (by omega) (by omega))) ?_ | refine l1 (add rfl rfl) ?_
        refine l1 (asgi rfl) ?_
        refine lnil ?_
        exact nI (i + 1) (by show i + 1 ≤ L1.length; omega) (by show L1.length - (i + 1) < L1.length - i; omega) ⟨rfl, rfl, rfl, trivial⟩ (List.Sublist.refl _)
      · skip
        refine cexit ?_
        refine nthenE ?_
        refine nIE ?_
        refine nblkE ?_
        refine nthen ?_
        refine cseq ?_
        refine creg ?_
        refine l1 (mvs rfl) ?_
        refine l1 (lens sl90 rfl rfl) ?_
        refine l1 (mvs rfl) ?_
        refine l1 (lens sl90 rfl rfl) ?_
        refine l1 (eql rfl rfl) ?_
        refine l1 (asg rfl) ?_
        refine lnil ?_
        refine nthen ?_
        refine cret ?_
        exact fin1b rfl rfl (by first | rfl | (rw [hsm.1]; simp))

set_option maxHeartbeats 2000000 in
theorem iturned_law (w : World) (p : Option Addr) (n c : Nat) (l : Nat → Rw) (hn : (n : Int) ≤ 9223372036854775807) (hl : Sl w p n 130 (fun i => encR (l i))) (hx : ∀ i, i < n → RwIn w (l i)) (kx : ∀ i, i < n → RwOk (l i)) (a : Nat) (ha : a ≤ 255) : Calls Try.prog 17 #[.slice p n c, .int .u8 (a : Int)] w (Ret (.bool true) w) := by
  refine fn_calls (n := 100) Try.func17 rfl rfl (lb rfl) ?_
  refine cseq ?_
  refine creg ?_
  refine l1 (asg rfl) ?_
  refine lnil ?_
  refine nthen ?_
  refine cseq ?_
  refine cseq ?_
  refine creg ?_
  refine l1 (cl hb29 rfl mn (fun w hw => awake18_calls w)) ?_
  refine l1 (nt rfl) ?_
  refine l1 (mvb rfl) ?_
  refine l1g rfl (gwf rfl) (fun h => mvs rfl) ?_
  refine l1g rfl (gwf rfl) (fun h => cl hb48 rfl (mc (gvt h) (mc rfl mn)) (fun w hw => fewrows_calls w p n c l 25 hn (Sl.keptS hl hw) (fun i hi => (hx i hi).keptS hw) kx)) ?_
  refine l1g rfl (gwf rfl) (fun h => nt (gvt h)) ?_
  refine l1 (pk_or rfl rfl rfl) ?_
  refine lnil ?_
  refine nthen ?_
  refine cif rfl (fun h1 => ?_) (fun h1 => ?_)
  · skip
    refine cseq ?_
    refine creg ?_
    refine l1 (cl hb29 rfl mn (fun w hw => awake18_calls w)) ?_
    refine l1 (asg rfl) ?_
    refine lnil ?_
    refine nthen ?_
    refine cret ?_
    refine nthenR ?_
    exact fin1b rfl rfl rfl
  · have hF0 : fewR l n 25 = true := by (simpa using h1)
    have hn40 := (fewR_row hF0 (by decide)).1
    have hfx : ∀ i, i < n → (l i).hd.tn ≤ 20 ∧ (l i).ch.gn ≤ 20 := fun i hi => fewRow_le ((fewR_row hF0 (by decide)).2 i hi)
    have hcl := counted_len l n
    refine cskip ?_
    refine nthen ?_
    refine cseq ?_
    refine creg ?_
    refine l1 (asg rfl) ?_
    refine lnil ?_
    refine nthen ?_
    refine cseq ?_
    refine cseq ?_
    refine creg ?_
    refine l1 (asgi rfl) ?_
    refine lnil ?_
    refine nthen ?_
    refine cblock ?_
    refine cloopI (σ := Nat × Value × List Ent) (fun s => [(0, .slice p n c), (1, .int .u8 (a : Int)), (5, s.2.1), (6, .int .i64 (s.1 : Int))]) (fun s => ([] ++ (s.2.2))) (fun s => s.1 ≤ n ∧ OwnL 79 130 s.2.1 s.1 ((trnR l n a s.1).flatMap encR) s.2.2 ∧ ∀ x, x < s.1 → ∀ y, y < x → keyR (l x) ≠ keyR (l y)) (fun s => n - s.1) (0, .slice none 0 0, []) ⟨Nat.zero_le _, OwnL.nil 79 130, fun x hx => by omega⟩ ⟨rfl, rfl, rfl, rfl, trivial⟩ (List.Sublist.refl _) ?_
    rintro ⟨i, ov, oe⟩ j ⟨hi, hown, hU⟩; replace hi : i ≤ n := hi; replace hown : OwnL 79 130 ov i ((trnR l n a i).flatMap encR) oe := hown; replace hU : ∀ x, x < i → ∀ y, y < x → keyR (l x) ≠ keyR (l y) := hU; obtain ⟨p3, c3, rfl⟩ := hown.form
    show WC _ _ _ ((oe)) _ _ (over j [(0, .slice p n c), (1, .int .u8 (a : Int)), (5, .slice p3 i c3), (6, .int .i64 (i : Int))])
    refine cseq ?_
    refine cseq ?_
    refine creg ?_
    refine l1 (mvi rfl) ?_
    refine l1 (mvs rfl) ?_
    refine l1 (lens sl74 rfl rfl) ?_
    refine l1 (lss rfl rfl) ?_
    refine lnil ?_
    refine nthen ?_
    refine cif rfl (fun h2 => ?_) (fun h2 => ?_)
    · have hlt : i < n := by (have := dt h2; omega)
      obtain ⟨b, o, hp, hbl, hm⟩ := hl.at hlt
      refine cskip ?_
      refine nthen ?_
      refine cseq ?_
      refine cblock ?_
      refine cseq ?_
      refine cseq ?_
      refine creg ?_
      refine l1 (asgi rfl) ?_
      refine lnil ?_
      refine nthen ?_
      refine cblock ?_
      refine cloopI (σ := Nat) (fun s => [(0, .slice p n c), (1, .int .u8 (a : Int)), (5, .slice p3 i c3), (6, .int .i64 (i : Int)), (7, .int .i64 (s : Int))]) (fun s => ([] ++ (oe))) (fun s => s ≤ i ∧ ∀ y, y < s → keyR (l i) ≠ keyR (l y)) (fun s => i - s) 0 ⟨Nat.zero_le _, fun y hy => by omega⟩ ⟨rfl, rfl, rfl, rfl, rfl, trivial⟩ (List.Sublist.refl _) ?_
      rintro k j ⟨hk, hK⟩
      show WC _ _ _ ((oe)) _ _ (over j [(0, .slice p n c), (1, .int .u8 (a : Int)), (5, .slice p3 i c3), (6, .int .i64 (i : Int)), (7, .int .i64 (k : Int))])
      replace hk : k ≤ i := hk; replace hK : ∀ y, y < k → keyR (l i) ≠ keyR (l y) := hK
      refine cseq ?_
      refine cseq ?_
      refine creg ?_
      refine l1 (mvi rfl) ?_
      refine l1 (mvi rfl) ?_
      refine l1 (lss rfl rfl) ?_
      refine lnil ?_
      refine nthen ?_
      refine cif rfl (fun h3 => ?_) (fun h3 => ?_)
      · have hki : k < i := by (have := dt h3; omega)
        refine cskip ?_
        refine nthen ?_
        refine cseq ?_
        refine cblock ?_
        refine cseq ?_
        refine cregq mo (by kernel_rfl) ?_
        refine q1 (mvs rfl) ?_
        refine q1 (mvi rfl) ?_
        refine q1 (isp sl74 hp rfl rfl (by omega) (by omega)) ?_
        refine q1 (fa fa79_0 rfl) ?_
        refine q1 (fa fa37_0 rfl) ?_
        refine q1 (ldm (v := .int .i64 (l i).hd.writer) Try.isAgg3 rfl (fun w' hw => ((hm i (by omega)).kept hw.below hbl).at (i := 0) rfl)) ?_
        refine q1 (mvs rfl) ?_
        refine q1 (mvi rfl) ?_
        refine q1 (isp sl74 hp rfl rfl (by omega) (by omega)) ?_
        refine q1 (fa fa79_0 rfl) ?_
        refine q1 (fa fa37_0 rfl) ?_
        refine q1 (ldm (v := .int .i64 (l k).hd.writer) Try.isAgg3 rfl (fun w' hw => ((hm k (by omega)).kept hw.below hbl).at (i := 0) rfl)) ?_
        refine q1 (eql rfl rfl) ?_
        refine q1 (mvb rfl) ?_
        refine q1g rfl (gwt rfl) (fun h => mvs rfl) ?_
        refine q1g rfl (gwt rfl) (fun h => mvi rfl) ?_
        refine q1g rfl (gwt rfl) (fun h => isp sl74 hp (gvt h) (gvt h) (by omega) (by omega)) ?_
        refine q1g rfl (gwt rfl) (fun h => fa fa79_0 (gvt h)) ?_
        refine q1g rfl (gwt rfl) (fun h => fa fa37_1 (gvt h)) ?_
        refine q1g rfl (gwt rfl) (fun h => ldm (v := .int .u64 (l i).hd.seq) Try.isAgg22 (gvt h) (fun w' hw => ((hm i (by omega)).kept hw.below hbl).at (i := 1) rfl)) ?_
        refine q1g rfl (gwt rfl) (fun h => mvs rfl) ?_
        refine q1g rfl (gwt rfl) (fun h => mvi rfl) ?_
        refine q1g rfl (gwt rfl) (fun h => isp sl74 hp (gvt h) (gvt h) (by omega) (by omega)) ?_
        refine q1g rfl (gwt rfl) (fun h => fa fa79_0 (gvt h)) ?_
        refine q1g rfl (gwt rfl) (fun h => fa fa37_1 (gvt h)) ?_
        refine q1g rfl (gwt rfl) (fun h => ldm (v := .int .u64 (l k).hd.seq) Try.isAgg22 (gvt h) (fun w' hw => ((hm k (by omega)).kept hw.below hbl).at (i := 1) rfl)) ?_
        refine q1g rfl (gwt rfl) (fun h => eql (gvt h) (gvt h)) ?_
        refine q1 (pk_and rfl rfl rfl) ?_
        refine qnil ?_
        refine nthen ?_
        refine cif rfl (fun h4 => ?_) (fun h4 => ?_)
        · skip
          refine cseq ?_
          refine creg ?_
          refine l1 (asg rfl) ?_
          refine lnil ?_
          refine nthen ?_
          refine cret ?_
          refine nblkR ?_
          refine nthenR ?_
          refine nIR ?_
          refine nblkR ?_
          refine nthenR ?_
          refine nblkR ?_
          refine nthenR ?_
          refine nIR ?_
          refine nblkR ?_
          refine nthenR ?_
          exact fin1b rfl rfl rfl
        · have hnd : keyR (l i) ≠ keyR (l k) := key_ne h4
          refine cskip ?_
          refine nblkN ?_
          refine nthen ?_
          refine creg ?_
          refine l1 (mvi rfl) ?_
          first | refine l1 (addn rfl rfl (ri (by omega) (by omega))) ?_ | refine l1 (add rfl rfl) ?_
          refine l1 (asgi rfl) ?_
          refine lnil ?_
          exact nI (k + 1) ⟨by omega, fun y hy => (Nat.lt_succ_iff_lt_or_eq.1 hy).elim (fun h => hK y h) (fun h => by subst h; exact hnd)⟩ (by show i - (k + 1) < i - k; omega) ⟨rfl, rfl, rfl, rfl, rfl, trivial⟩ (List.Sublist.refl _)
      · have hki : i ≤ k := by (have := df h3; omega)
        have hmod := Nat.mod_lt (i + a) (show 0 < n by omega)
        refine cexit ?_
        refine nthenE ?_
        refine nIE ?_
        refine nblkE ?_
        refine nthen ?_
        refine creg ?_
        refine l1 (mvs rfl) ?_
        refine l1 (mvs rfl) ?_
        refine l1 (mvs rfl) ?_
        refine l1 (lens sl74 rfl rfl) ?_
        refine l1 (subn rfl rfl (ri (by omega) (by omega))) ?_
        refine l1 (mvi rfl) ?_
        refine l1 (mvi rfl) ?_
        refine l1 (cvn ⟨_, Try.underlying5⟩ Try.underlying3 rfl (ri (by omega) (by omega))) ?_
        refine l1 (addn rfl rfl (ri (by omega) (by omega))) ?_
        refine l1 (mvs rfl) ?_
        refine l1 (lens sl74 rfl rfl) ?_
        refine l1 (remn (r := (((i + a) % n : Nat) : Int)) rfl rfl (by omega) (by rw [← Int.natCast_add]; exact (Int.ofNat_tmod _ _).symm)) ?_
        refine l1 (subn rfl rfl (ri (by omega) (by omega))) ?_
        refine l1 (isp sl74 hp rfl rfl (by omega) (by omega)) ?_
        refine l1 (ldam (vs := encR (l (n - 1 - (i + a) % n))) Try.isAgg79 Try.sizeOf79 rfl rfl (fun w' hw => by rw [show ((n : Int) - 1 - (((i + a) % n : Nat) : Int)).toNat = (n - 1 - (i + a) % n) from by omega]; exact (hm _ (by omega)).kept hw.below hbl)) ?_
        refine lbs Try.underlying74 rfl (bs74 _) (fun b1 => ?_)
        refine wl_perm (ins_perm 0 _ _) ?_
        refine lapp [_] [] oe el74 (by rw [List.append_nil]; rfl) rfl hown rfl (news := encR (l (n - 1 - (i + a) % n))) rfl (fun w' hw => by have := hw.mem (i := 0) rfl 0; simpa using this) (encR_one _) (by decide) (by unfold maxLen; omega) (by omega) ?_
        intro g' cap oe' hown'
        rw [List.append_nil]
        refine l1 (asg rfl) ?_
        refine lnil ?_
        refine nblkN ?_
        refine nthen ?_
        refine creg ?_
        refine l1 (mvi rfl) ?_
        first | refine l1 (addn rfl rfl (ri (by omega) (by omega))) ?_ | refine l1 (add rfl rfl) ?_
        refine l1 (asgi rfl) ?_
        refine lnil ?_
        exact nI (i + 1, .slice (some ⟨g', 0, none⟩) (i + 1) cap, oe') ⟨by omega, by rw [trnR_succ, List.flatMap_append]; simpa using hown', fun x hx y hy => (Nat.lt_succ_iff_lt_or_eq.1 hx).elim (fun h => hU x h y hy) (fun h => by subst h; exact hK y (by omega))⟩ (by show n - (i + 1) < n - i; omega) ⟨rfl, rfl, rfl, rfl, trivial⟩ (List.Sublist.cons _ (List.Sublist.refl _))
    · have hin : n = i := by (have := df h2; omega)
      subst hin
      refine cexit ?_
      refine nthenE ?_
      refine nIE ?_
      refine nblkE ?_
      refine nthen ?_
      refine cseq ?_
      refine creg ?_
      refine l1 (mvs rfl) ?_
      refine lclm hb56 rfl (mc rfl mn) (fun w' hw => fold_calls w' p n c l (by omega) (Sl.keptS hl hw) (fun i hi => (hx i hi).keptS hw) kx hfx) ?_
      rintro v1 H1 ⟨L1, oe1, tl1, rfl, hF1⟩
      obtain ⟨p1, c1, rfl⟩ := hF1.own.form
      have hH1 := fold_hd hF1.perm (cnt_ok kx)
      have hG1 := fold_gn (m := 20) hF1.perm (cnt_gn (fun i hi => (hfx i hi).2))
      have hL1 := fold_len hF1.perm
      refine l1 (mvs rfl) ?_
      have hown2 : OwnL 79 130 (.slice p3 (trnR l n a n).length c3) (trnR l n a n).length ((trnR l n a n).flatMap encR) oe := by rw [trnR_len]; exact hown
      have htm : ∀ {r : Rw}, r ∈ (trnR l n a n) → ∃ j, j < n ∧ r = l j := fun {r} hr => trnR_mem hr ((Nat.eq_zero_or_pos n).elim (fun h0 => by subst h0; simp [trnR] at hr) id)
      have htk : ∀ i, i < (trnR l n a n).length → RwOk ((trnR l n a n).getD i rz) := all_getD (fun r hr => by obtain ⟨j, h1, rfl⟩ := htm hr; exact kx j h1)
      have htg : ∀ i, i < (trnR l n a n).length → ((trnR l n a n).getD i rz).hd.tn ≤ 20 ∧ ((trnR l n a n).getD i rz).ch.gn ≤ 20 := all_getD (Pr := fun r => r.hd.tn ≤ 20 ∧ r.ch.gn ≤ 20) (fun r hr => by obtain ⟨j, h1, rfl⟩ := htm hr; exact hfx j h1)
      refine lclm hb56 rfl (mc (show _ = Value.slice p3 (trnR l n a n).length c3 by rw [trnR_len]; rfl) mn) (fun w' hw => fold_calls w' p3 (trnR l n a n).length c3 (fun i => (trnR l n a n).getD i rz) (by rw [trnR_len]; omega) (SlIn.sl (hown2.slInL (fun a => rfl) (fun i hi => ⟨_, getD_getR hi, rfl⟩)) (hw.sub (List.sublist_append_left oe _))) (all_getD (fun r hr => by obtain ⟨j, h1, rfl⟩ := htm hr; exact (hx j h1).keptS hw)) htk htg) ?_
      rintro v2 H2 ⟨L2, oe2, tl2, rfl, hF2⟩
      have hsm := map_same (fold_eq (turned_counted (a := a) hU) hF1.perm hF2.perm hF1.srt hF2.srt)
      obtain ⟨p2, c2, rfl⟩ := hF2.own.form
      have hH2 := fold_hd hF2.perm (cnt_ok htk)
      have hG2 := fold_gn (m := 20) hF2.perm (cnt_gn (fun i hi => (htg i hi).2))
      have hL2 := fold_len hF2.perm
      refine l1 (asg rfl) ?_
      refine l1 (asg rfl) ?_
      refine lnil ?_
      refine nthen ?_
      refine cseq ?_
      refine cseq ?_
      refine creg ?_
      refine l1 (mvs rfl) ?_
      refine l1 (lens sl90 rfl rfl) ?_
      refine l1 (mvs rfl) ?_
      refine l1 (lens sl90 rfl rfl) ?_
      refine l1 (neq rfl rfl) ?_
      refine lnil ?_
      refine nthen ?_
      refine ciff (bf rfl (by rw [hsm.1]; simp)) ?_
      refine cskip ?_
      refine nthen ?_
      refine cseq ?_
      refine cseq ?_
      refine creg ?_
      refine l1 (asgi rfl) ?_
      refine lnil ?_
      refine nthen ?_
      refine cblock ?_
      refine cloopI (σ := Nat) (fun s => [(8, .slice p1 L1.length c1), (9, .slice p2 L2.length c2), (10, .int .i64 (s : Int))]) (fun s => ([] ++ ((oe1 ++ tl1) ++ (oe2 ++ tl2)))) (fun s => s ≤ L1.length) (fun s => L1.length - s) 0 (Nat.zero_le _) ⟨rfl, rfl, rfl, trivial⟩ ((show List.Sublist ((oe1 ++ tl1) ++ (oe2 ++ tl2)) ((oe ++ (oe1 ++ tl1)) ++ (oe2 ++ tl2)) from List.Sublist.append (List.sublist_append_right _ _) (List.Sublist.refl _))) ?_
      rintro i j hi
      show WC _ _ _ (((oe1 ++ tl1) ++ (oe2 ++ tl2))) _ _ (over j [(8, .slice p1 L1.length c1), (9, .slice p2 L2.length c2), (10, .int .i64 (i : Int))])
      replace hi : i ≤ L1.length := hi
      refine cseq ?_
      refine cseq ?_
      refine creg ?_
      refine l1 (mvi rfl) ?_
      refine l1 (mvs rfl) ?_
      refine l1 (lens sl90 rfl rfl) ?_
      refine l1 (lss rfl rfl) ?_
      refine lnil ?_
      refine nthen ?_
      refine cif rfl (fun h5 => ?_) (fun h5 => ?_)
      · have hlt : i < L1.length := by (have := dt h5; omega)
        have hlt2 : i < L2.length := by (rw [← hsm.1]; exact hlt)
        obtain ⟨g1x, hp1, hm1⟩ := own_itm hF1.own rfl hlt
        obtain ⟨g2x, hp2, hm2⟩ := own_itm hF2.own rfl hlt2
        refine cskip ?_
        refine nthen ?_
        refine cseq ?_
        refine cblock ?_
        refine cseq ?_
        refine cregq mo (by kernel_rfl) ?_
        refine q1 (mvs rfl) ?_
        refine q1 (mvi rfl) ?_
        refine q1 (isp sl90 hp1 rfl rfl (by omega) (by omega)) ?_
        refine q1 (ldam (vs := encI (L1.getD i iz)) Try.isAgg83 Try.sizeOf83 rfl rfl (fun w' hw => hm1 _ _ _ hw (List.Sublist.trans (List.sublist_append_left oe1 tl1) (List.sublist_append_left _ _)))) ?_
        refine q1 (mvs rfl) ?_
        refine q1 (mvi rfl) ?_
        refine q1 (isp sl90 hp2 rfl rfl (by omega) (by omega)) ?_
        refine q1 (ldam (vs := encI (L2.getD i iz)) Try.isAgg83 Try.sizeOf83 rfl rfl (fun w' hw => hm2 _ _ _ hw (List.Sublist.trans (List.sublist_append_left oe2 tl2) (List.sublist_append_right _ _)))) ?_
        refine q1 (cl hb53 rfl (mc rfl (mc rfl mn)) (fun w hw => rsameI_calls (L1.getD i iz) (L2.getD i iz) w ((hF1.mem _ (getD_memI hlt)).sat (hw.sub (List.Sublist.trans (List.sublist_append_right oe1 tl1) (List.sublist_append_left _ _)))) ((hF2.mem _ (getD_memI hlt2)).sat (hw.sub (List.Sublist.trans (List.sublist_append_right oe2 tl2) (List.sublist_append_right _ _)))) (hH1 _ (getD_memI hlt)) (hH2 _ (getD_memI hlt2)) (by have := hG1 _ (getD_memI hlt); omega))) ?_
        refine q1 (nt rfl) ?_
        refine qnil ?_
        refine nthen ?_
        refine ciff (bf rfl (by rw [hsm.2 i hlt]; rfl)) ?_
        refine cskip ?_
        refine nblkN ?_
        refine nthen ?_
        refine creg ?_
        refine l1 (mvi rfl) ?_
        first | refine l1 (addn rfl rfl (ri (by omega) (by omega))) ?_ | refine l1 (add rfl rfl) ?_
        refine l1 (asgi rfl) ?_
        refine lnil ?_
        exact nI (i + 1) (by show i + 1 ≤ L1.length; omega) (by show L1.length - (i + 1) < L1.length - i; omega) ⟨rfl, rfl, rfl, trivial⟩ (List.Sublist.refl _)
      · skip
        refine cexit ?_
        refine nthenE ?_
        refine nIE ?_
        refine nblkE ?_
        refine nthen ?_
        refine cseq ?_
        refine creg ?_
        refine l1 (asg rfl) ?_
        refine lnil ?_
        refine nthen ?_
        refine cret ?_
        exact fin1b rfl rfl rfl

theorem iturnedN (w : World) (p : Option Addr) (n c : Nat) (l : Nat → Rw) (hn : (n : Int) ≤ 9223372036854775807) (hl : Sl w p n 130 (fun i => encR (l i))) (hx : ∀ i, i < n → RwIn w (l i)) (kx : ∀ i, i < n → RwOk (l i)) (a : Int) (ha : 0 ≤ a ∧ a ≤ 255) : Calls Try.prog 17 #[.slice p n c, .int .u8 a] w (Ret (.bool true) w) := by
  have h := iturned_law w p n c l hn hl hx kx a.toNat (by omega)
  rwa [Int.toNat_of_nonneg ha.1] at h
end Go.Proofs.Ytkdbjhlkahkobaa
