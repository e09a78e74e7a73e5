/- several texts of ours, joined: Yc, Mp1, Mp2, Mp3, Prt, Yd, Ye, Yf, Byn, Yh, Yk, Inj -/
import Derived.Test.YtkdbjhlkahkobaaZa
import Derived.Test.YtkdbjhlkahkobaaZe
import Derived.Test.YtkdbjhlkahkobaaZb
import Derived.MapKept
import Derived.Laws.StructEq
/- walks, printed by a program of ours -/
namespace Go.Proofs.Ytkdbjhlkahkobaa
open Jal Go.RowKit
set_option maxRecDepth 100000
set_option maxHeartbeats 2000000 in
theorem made_item_calls (w : World) (tok : Nat → Int) (p : Option Addr) (n c : Nat) (l : Nat → Rw) (hn : n ≤ 100) (hl : Sl w p n 130 (fun i => encR (l i))) (hx : ∀ i, i < n → RwIn w (l i)) (kx : ∀ i, i < n → (l i).hd.tn ≤ 20 ∧ (l i).ch.gn ≤ 20) : Calls Try.prog 87 #[.agg (arr .u8 16 tok).toArray, .slice p n c] w (RetM (fun v Hn => ∃ I : It, v = .agg (encI I).toArray ∧ coreI I = coreI (madeI tok (rowsL l n)) ∧ ItIn Hn I) w) := by
  refine fn_calls (n := 60) Try.func87 rfl rfl (lb rfl) ?_
  obtain ⟨A, hA⟩ : ∃ A, A = latR anyR (rowsL l n) := ⟨_, rfl⟩
  obtain ⟨K, hK⟩ : ∃ K, K = latR knownR (rowsL l n) := ⟨_, rfl⟩
  obtain ⟨V, hV⟩ : ∃ V, V = latR valuedR (rowsL l n) := ⟨_, rfl⟩
  have hAx : RwIn w A.1 := by rw [hA]; exact lat_all ⟨⟨.inl rfl⟩, ⟨.inl rfl⟩⟩ hx
  have hKx : RwIn w K.1 := by rw [hK]; exact lat_all ⟨⟨.inl rfl⟩, ⟨.inl rfl⟩⟩ hx
  have hA20 : A.1.hd.tn ≤ 20 := by rw [hA]; exact lat_all (Pr := fun r => r.hd.tn ≤ 20) (by decide) (fun i hi => (kx i hi).1)
  have hK20 : K.1.ch.gn ≤ 20 := by rw [hK]; exact lat_all (Pr := fun r => r.ch.gn ≤ 20) (by decide) (fun i hi => (kx i hi).2)
  refine cseq ?_
  refine creg ?_
  refine lbxa rfl (fun b1 => ?_)
  refine lal (zs := encI iz) Try.zeroValue83 rfl (fun b2 => ?_)
  refine lnil ?_
  refine nthen ?_
  refine cseq ?_
  refine creg ?_
  refine l1 (mvs rfl) ?_
  refine l1 (cl (v := .tuple #[.agg (encR A.1).toArray, .bool A.2]) hb114 rfl (mc rfl (mc rfl mn)) (fun w' hw => by rw [hA]; exact latest_calls w' p n c l hn (Sl.keptS hl hw) 115 anyR hb115 (fun i hi w2 H h2 => any_calls (l i) w2))) ?_
  refine l1 (mv rfl) ?_
  refine l1 (ext (vs := [.agg (encR A.1).toArray, .bool A.2]) rfl rfl) ?_
  refine l1 (ext (vs := [.agg (encR A.1).toArray, .bool A.2]) rfl rfl) ?_
  refine lal (zs := encR rz) Try.zeroValue79 rfl (fun b3 => ?_)
  refine lstw 2 rfl rfl rfl Try.sizeOf79 rfl rfl rfl ?_
  refine l1 (asgb rfl) ?_
  refine lnil ?_
  refine nthen ?_
  refine cseq ?_
  refine creg ?_
  refine l1 (mvs rfl) ?_
  refine l1 (cl (v := .tuple #[.agg (encR K.1).toArray, .bool K.2]) hb114 rfl (mc rfl (mc rfl mn)) (fun w' hw => by rw [hK]; exact latest_calls w' p n c l hn (Sl.keptS hl hw) 116 knownR hb116 (fun i hi w2 H h2 => known_calls (l i) w2))) ?_
  refine l1 (mv rfl) ?_
  refine l1 (ext (vs := [.agg (encR K.1).toArray, .bool K.2]) rfl rfl) ?_
  refine l1 (ext (vs := [.agg (encR K.1).toArray, .bool K.2]) rfl rfl) ?_
  refine lal (zs := encR rz) Try.zeroValue79 rfl (fun b4 => ?_)
  refine lstw 3 rfl rfl rfl Try.sizeOf79 rfl rfl rfl ?_
  refine l1 (asgb rfl) ?_
  refine lnil ?_
  refine nthen ?_
  refine cseq ?_
  refine creg ?_
  refine l1 (mvs rfl) ?_
  refine l1 (cl (v := .tuple #[.agg (encR V.1).toArray, .bool V.2]) hb114 rfl (mc rfl (mc rfl mn)) (fun w' hw => by rw [hV]; exact latest_calls w' p n c l hn (Sl.keptS hl hw) 117 valuedR hb117 (fun i hi w2 H h2 => valued_calls (l i) w2))) ?_
  refine l1 (mv rfl) ?_
  refine l1 (ext (vs := [.agg (encR V.1).toArray, .bool V.2]) rfl rfl) ?_
  refine l1 (ext (vs := [.agg (encR V.1).toArray, .bool V.2]) rfl rfl) ?_
  refine lal (zs := encR rz) Try.zeroValue79 rfl (fun b5 => ?_)
  refine lstw 4 rfl rfl rfl Try.sizeOf79 rfl rfl rfl ?_
  refine l1 (asgb rfl) ?_
  refine lnil ?_
  refine nthen ?_
  refine cseq ?_
  refine creg ?_
  refine l1 (ldw 0 Try.isAgg34 Try.sizeOf34 rfl rfl rfl) ?_
  refine l1 (fa fa79_0 rfl) ?_
  refine l1 (lda 2 Try.isAgg37 Try.sizeOf37 rfl rfl (encR_hd _) rfl) ?_
  refine l1 (fa fa79_1 rfl) ?_
  refine l1 (ldc 2 Try.isAgg4 rfl rfl rfl) ?_
  refine l1 (fa fa79_2 rfl) ?_
  refine l1 (fa fa77_1 rfl) ?_
  refine l1 (ldc 3 Try.isAgg9 rfl rfl rfl) ?_
  refine l1 (bldk (zs := encI ⟨tok, A.1.hd, A.1.known, false, K.1.ch.name, none, 0, 0, fun _ => ByteArray.empty, ByteArray.empty⟩) rfl (bk83 _ _ _ _)) ?_
  refine lal (zs := encI iz) Try.zeroValue83 rfl (fun b6 => ?_)
  refine lstw 5 rfl rfl rfl Try.sizeOf83 rfl rfl rfl ?_
  refine lnil ?_
  refine nthen ?_
  refine cseq ?_
  refine creg ?_
  refine l1 (fa fa83_1 rfl) ?_
  refine l1 (fa fa37_7 rfl) ?_
  refine l1 (ldc 5 Try.isAgg35 rfl rfl rfl) ?_
  refine lclm hb82 rfl (mc rfl mn) (fun w' hw => clone_calls w' _ _ _ _ hA20 (Sl.keptS hAx.h hw)) ?_
  rintro v39 Hn ⟨p', c', rfl, htk⟩
  refine l1 (fa fa83_1 rfl) ?_
  refine l1 (fa fa37_7 rfl) ?_
  refine lsts 5 rfl rfl rfl Try.sizeOf35 (lb rfl) (encI_setTok _ p' c') ?_
  refine lnil ?_
  refine nthen ?_
  refine cseq ?_
  refine cseq ?_
  refine creg ?_
  refine l1 (mvb rfl) ?_
  refine l1 (mvb rfl) ?_
  refine l1g rfl (gwt rfl) (fun h => fa fa79_2 rfl) ?_
  refine l1g rfl (gwt rfl) (fun h => fa fa77_0 (gvt h)) ?_
  refine l1g rfl (gwt rfl) (fun h => ldc 4 Try.isAgg3 rfl (gvt h) rfl) ?_
  refine l1g rfl (gwt rfl) (fun h => eql (gvt h) rfl) ?_
  refine l1 (pk_and rfl rfl rfl) ?_
  refine lnil ?_
  refine nthen ?_
  refine cif rfl (fun h1 => ?_) (fun h1 => ?_)
  · skip
    refine cregH (fun x : List Value => ⟨b1, arr .u8 16 tok, 34⟩ :: ⟨b2, encI iz, 83⟩ :: ⟨b3, encR A.1, 79⟩ :: ⟨b4, encR K.1, 79⟩ :: ⟨b5, encR V.1, 79⟩ :: ⟨b6, x, 83⟩ :: []) 13 mo rfl ?_
    refine hq1 0 rfl (by kernel_rfl) (by kernel_rfl) (by kernel_rfl) (fun c a w h => h) (.inl ⟨_, rfl⟩) (fun w hw => ⟨_, hw.sub (List.Sublist.cons_cons _ (List.Sublist.cons_cons _ (List.Sublist.cons_cons _ (List.Sublist.cons_cons _ (List.Sublist.cons_cons _ (List.Sublist.cons_cons _ (List.nil_sublist _)))))))⟩) (fun T => fa fa79_2 rfl) ?_
    refine hq1 1 rfl (by kernel_rfl) (by kernel_rfl) (by kernel_rfl) (fun c a w h => h) (.inl ⟨_, rfl⟩) (fun w hw => ⟨_, hw.sub (List.Sublist.cons_cons _ (List.Sublist.cons_cons _ (List.Sublist.cons_cons _ (List.Sublist.cons_cons _ (List.Sublist.cons_cons _ (List.Sublist.cons_cons _ (List.nil_sublist _)))))))⟩) (fun T => fa fa77_3 rfl) ?_
    refine hq1 2 rfl (by kernel_rfl) (by kernel_rfl) (by kernel_rfl) (fun c a w h => h) (.inl ⟨_, rfl⟩) (fun w hw => ⟨_, hw.sub (List.Sublist.cons_cons _ (List.Sublist.cons_cons _ (List.Sublist.cons_cons _ (List.Sublist.cons_cons _ (List.Sublist.cons_cons _ (List.Sublist.cons_cons _ (List.nil_sublist _)))))))⟩) (fun T => ldc 4 Try.isAgg9 rfl rfl rfl) ?_
    refine hq1 3 rfl (by kernel_rfl) (by kernel_rfl) (by kernel_rfl) (fun c a w h => h) (.inl ⟨_, rfl⟩) (fun w hw => ⟨_, hw.sub (List.Sublist.cons_cons _ (List.Sublist.cons_cons _ (List.Sublist.cons_cons _ (List.Sublist.cons_cons _ (List.Sublist.cons_cons _ (List.Sublist.cons_cons _ (List.nil_sublist _)))))))⟩) (fun T => fa fa79_2 rfl) ?_
    refine hq1 4 rfl (by kernel_rfl) (by kernel_rfl) (by kernel_rfl) (fun c a w h => h) (.inl ⟨_, rfl⟩) (fun w hw => ⟨_, hw.sub (List.Sublist.cons_cons _ (List.Sublist.cons_cons _ (List.Sublist.cons_cons _ (List.Sublist.cons_cons _ (List.Sublist.cons_cons _ (List.Sublist.cons_cons _ (List.nil_sublist _)))))))⟩) (fun T => fa fa77_2 rfl) ?_
    refine hq1 5 rfl (by kernel_rfl) (by kernel_rfl) (by kernel_rfl) (fun c a w h => h) (.inl ⟨_, rfl⟩) (fun w hw => ⟨_, hw.sub (List.Sublist.cons_cons _ (List.Sublist.cons_cons _ (List.Sublist.cons_cons _ (List.Sublist.cons_cons _ (List.Sublist.cons_cons _ (List.Sublist.cons_cons _ (List.nil_sublist _)))))))⟩) (fun T => ldc 3 Try.isAgg75 rfl rfl rfl) ?_
    refine hq1 7 rfl (by kernel_rfl) (by kernel_rfl) (by kernel_rfl) (fun c a w h => h) (.inl ⟨_, rfl⟩) (fun w hw => ⟨_, hw.sub (List.Sublist.cons_cons _ (List.Sublist.cons_cons _ (List.Sublist.cons_cons _ (List.Sublist.cons_cons _ (List.Sublist.cons_cons _ (List.Sublist.cons_cons _ (List.nil_sublist _)))))))⟩) (fun T => fa fa83_3 rfl) ?_
    refine he 6 (by kernel_rfl) rfl ?_
    refine lclm hb118 rfl (mc rfl mn) (fun w' hw => cls_calls w' _ _ _ K.1.ch.tag (by omega) (Sl.keptS hKx.c hw)) ?_
    rintro v55 Hg hog
    obtain ⟨pg, cg, rfl⟩ := hog.form
    refine wl_tail 6 ?_
    refine hnil (fun w hw => ⟨_, hw.sub (List.Sublist.cons_cons _ (List.Sublist.cons_cons _ (List.Sublist.cons_cons _ (List.Sublist.cons_cons _ (List.Sublist.cons_cons _ (List.Sublist.cons_cons _ (List.nil_sublist _)))))))⟩) ?_
    refine he 8 (by kernel_rfl) rfl ?_
    refine lstb 5 rfl rfl rfl Try.sizeOf4 (lb rfl) (encI_setAlive _ true) ?_
    refine hnil (fun w hw => ⟨_, hw.sub (List.Sublist.cons_cons _ (List.Sublist.cons_cons _ (List.Sublist.cons_cons _ (List.Sublist.cons_cons _ (List.Sublist.cons_cons _ (List.Sublist.cons_cons _ (List.nil_sublist _)))))))⟩) ?_
    refine hq1 9 rfl (by kernel_rfl) (by kernel_rfl) (by kernel_rfl) (fun c a w h => h) (.inl ⟨_, rfl⟩) (fun w hw => ⟨_, hw.sub (List.Sublist.cons_cons _ (List.Sublist.cons_cons _ (List.Sublist.cons_cons _ (List.Sublist.cons_cons _ (List.Sublist.cons_cons _ (List.Sublist.cons_cons _ (List.nil_sublist _)))))))⟩) (fun T => fa fa83_6 rfl) ?_
    refine he 10 (by kernel_rfl) rfl ?_
    refine lstt 5 rfl rfl rfl Try.sizeOf9 (lb rfl) (encI_setValue _ V.1.ch.value) ?_
    refine hnil (fun w hw => ⟨_, hw.sub (List.Sublist.cons_cons _ (List.Sublist.cons_cons _ (List.Sublist.cons_cons _ (List.Sublist.cons_cons _ (List.Sublist.cons_cons _ (List.Sublist.cons_cons _ (List.nil_sublist _)))))))⟩) ?_
    refine hq1 11 rfl (by kernel_rfl) (by kernel_rfl) (by kernel_rfl) (fun c a w h => h) (.inl ⟨_, rfl⟩) (fun w hw => ⟨_, hw.sub (List.Sublist.cons_cons _ (List.Sublist.cons_cons _ (List.Sublist.cons_cons _ (List.Sublist.cons_cons _ (List.Sublist.cons_cons _ (List.Sublist.cons_cons _ (List.nil_sublist _)))))))⟩) (fun T => fa fa83_5 rfl) ?_
    refine he 12 (by kernel_rfl) rfl ?_
    refine lsts 5 rfl rfl rfl Try.sizeOf75 (lb rfl) (encI_setTags _ pg K.1.ch.gn cg K.1.ch.tag) ?_
    refine hnil (fun w hw => ⟨_, hw.sub (List.Sublist.cons_cons _ (List.Sublist.cons_cons _ (List.Sublist.cons_cons _ (List.Sublist.cons_cons _ (List.Sublist.cons_cons _ (List.Sublist.cons_cons _ (List.nil_sublist _)))))))⟩) ?_
    refine hend (by kernel_rfl) ?_
    refine nthen ?_
    refine cseq ?_
    refine creg ?_
    refine l1 (ldw 5 Try.isAgg83 Try.sizeOf83 rfl rfl rfl) ?_
    refine lstw 1 rfl rfl rfl Try.sizeOf83 rfl rfl rfl ?_
    refine lnil ?_
    refine nthen ?_
    refine cret ?_
    exact finM _ (Hn ++ Hg) (rv1 rfl (rvc 1 Try.isAgg83 Try.sizeOf83 rfl rfl rfl rfl)) ⟨_, List.Perm.refl _, (List.Sublist.cons _ (List.Sublist.cons _ (List.Sublist.cons _ (List.Sublist.cons _ (List.Sublist.cons _ (List.Sublist.cons _ (List.Sublist.refl _)))))))⟩ ⟨_, rfl, by unfold madeI; rw [← hA, ← hK, ← hV, h1]; rfl, ⟨htk.mono (fun e he => List.mem_append_left _ he), (hog.slInL (fun a => rfl) (fun i hi => ⟨i, List.getElem?_range hi, rfl⟩)).mono (fun e he => List.mem_append_right _ he)⟩⟩
  · skip
    refine cskip ?_
    refine nthen ?_
    refine cseq ?_
    refine creg ?_
    refine l1 (ldw 5 Try.isAgg83 Try.sizeOf83 rfl rfl rfl) ?_
    refine lstw 1 rfl rfl rfl Try.sizeOf83 rfl rfl rfl ?_
    refine lnil ?_
    refine nthen ?_
    refine cret ?_
    exact finM _ Hn (rv1 rfl (rvc 1 Try.isAgg83 Try.sizeOf83 rfl rfl rfl rfl)) ⟨_, List.Perm.refl _, (List.Sublist.cons _ (List.Sublist.cons _ (List.Sublist.cons _ (List.Sublist.cons _ (List.Sublist.cons _ (List.Sublist.cons _ (List.Sublist.refl _)))))))⟩ ⟨_, rfl, by unfold madeI; rw [← hA, ← hK, ← hV, h1]; rfl, ⟨htk, .inl rfl⟩⟩
end Go.Proofs.Ytkdbjhlkahkobaa
/- maps whose keys are numbers put together, kept below the base of a walk -/
namespace Jal
open Go Go.RowKit
def setB (w : World) (r : Nat) (o : Obj) : World := { w with heap := w.heap.setIfInBounds r o }
theorem setB_same {w : World} {r : Nat} {o : Obj} (h : r < w.heap.size) : (setB w r o).heap[r]? = some o := by simp [setB, h]
theorem setB_other {w : World} {r k : Nat} {o : Obj} (h : k ≠ r) : (setB w r o).heap[k]? = w.heap[k]? := by
  show (w.heap.setIfInBounds r o)[k]? = _
  rw [Array.getElem?_setIfInBounds_ne (fun e => h e.symm)]
theorem setB_size {w : World} {r : Nat} {o : Obj} : (setB w r o).heap.size = w.heap.size := by simp [setB]
/-- a block of the base's changed, in the base as in the world -/
theorem Sat.setB {w0 w : World} {H : List Ent} (h : Sat w0 H w) {r : Nat} (hr : r < w0.heap.size) (o : Obj) : Sat (setB w0 r o) H (setB w r o) := by
  refine ⟨⟨h.below.os, h.below.tape, h.below.output, by rw [setB_size, setB_size]; exact h.below.size, fun k hk => ?_⟩, fun e he => ⟨by rw [setB_size]; exact (h.own e he).1, ?_⟩, h.apart⟩
  · rw [setB_size] at hk
    by_cases hkr : k = r
    · subst hkr
      rw [setB_same hr, setB_same (Nat.lt_of_lt_of_le hr h.below.size)]
    · rw [setB_other hkr, setB_other hkr]
      exact h.below.block k hk
  · rw [setB_other (fun e1 => by have := (h.own e he).1; omega)]
    exact (h.own e he).2
structure KeyT (P : Program) (kt : TypeId) (κ : Type) (kv : κ → Value) (eqk : κ → κ → Bool) : Prop where
  und : ∃ d, P.underlying kt = some d ∧ ∀ a b, Instr.sameNow d (kv a) (kv b) = none
  chk : ∀ e a w, (Instr.checkKey e 10000 kt (kv a)).run P w = .ok () w
  eq : ∀ a b w, (Op.equal kt (kv a) (kv b)).run P w = .ok (eqk a b) w
  same : ∀ a b, eqk a b = true → kv a = kv b
  bits : ∀ a, Instr.sameBits 10000 (kv a) (kv a) = true
section
variable {κ : Type} (kv : κ → Value) (eqk : κ → κ → Bool)
def ents : List (κ × Value) → Nat → List MapEntry
  | [], _ => []
  | (a, v) :: M, i => { key := kv a, val := v, born := i } :: ents M (i + 1)
def mob (M : List (κ × Value)) : Obj := .map (ents kv M 0).toArray M.length
def findM (k : κ) : List (κ × Value) → Nat → Option (Nat × Value)
  | [], _ => none
  | (a, v) :: M, i => bif eqk k a then some (i, v) else findM k M (i + 1)
def valM (k : κ) (M : List (κ × Value)) (z : Value) : Value := match findM eqk k M 0 with | some (_, v) => v | none => z
def idxM (k : κ) (M : List (κ × Value)) : Nat := match findM eqk k M 0 with | some (i, _) => i | none => M.length
def putM (k : κ) (M : List (κ × Value)) (z : Value) : List (κ × Value) := match findM eqk k M 0 with | some _ => M | none => M ++ [(k, z)]
def setM (M : List (κ × Value)) (i : Nat) (v : Value) : List (κ × Value) := M.modify i (fun p => (p.1, v))
theorem ents_len : ∀ (M : List (κ × Value)) (i : Nat), (ents kv M i).length = M.length
  | [], _ => rfl
  | _ :: M, i => by simp [ents, ents_len M (i + 1)]
theorem ents_app : ∀ (M N : List (κ × Value)) (i : Nat), ents kv (M ++ N) i = ents kv M i ++ ents kv N (i + M.length)
  | [], _, _ => rfl
  | (a, v) :: M, N, i => by
    show _ :: ents kv (M ++ N) (i + 1) = _ :: (ents kv M (i + 1) ++ _)
    rw [ents_app M N (i + 1), List.length_cons, show i + 1 + M.length = i + (M.length + 1) by omega]
theorem ents_get : ∀ (M : List (κ × Value)) (i j : Nat), (ents kv M i)[j]? = (M[j]?).map (fun p => { key := kv p.1, val := p.2, born := i + j })
  | [], _, _ => by simp [ents]
  | (a, v) :: M, i, 0 => by simp [ents]
  | (a, v) :: M, i, j + 1 => by
    show (ents kv M (i + 1))[j]? = _
    rw [ents_get M (i + 1) j, List.getElem?_cons_succ, show i + 1 + j = i + (j + 1) by omega]
theorem findM_lt {k : κ} : ∀ {M : List (κ × Value)} {i j : Nat} {v : Value}, findM eqk k M i = some (j, v) → ∃ a, i ≤ j ∧ M[j - i]? = some (a, v) ∧ eqk k a = true
  | [], _, _, _, h => by cases h
  | (a, v) :: M, i, j, v', h => by
    unfold findM at h
    cases hq : eqk k a with
    | true =>
      rw [hq] at h
      cases h
      exact ⟨a, Nat.le_refl _, by simp, hq⟩
    | false =>
      rw [hq] at h
      obtain ⟨a', h1, h2, h3⟩ := findM_lt (M := M) h
      exact ⟨a', by omega, by rw [show j - i = (j - (i + 1)) + 1 by omega, List.getElem?_cons_succ]; exact h2, h3⟩
theorem idxM_lt {k : κ} {M : List (κ × Value)} {z : Value} : idxM eqk k M < (putM eqk k M z).length := by
  unfold idxM putM
  cases h : findM eqk k M 0 with
  | none => simp
  | some p =>
    obtain ⟨a, h1, h2, h3⟩ := findM_lt eqk (j := p.1) (v := p.2) h
    exact (List.getElem?_eq_some_iff.1 h2).1
end
section
variable {P : Program} {κ : Type} {kv : κ → Value} {eqk : κ → κ → Bool} {kt : TypeId}
theorem run_findAsking (K : KeyT P kt κ kv eqk) (k : κ) (w : World) : ∀ (M : List (κ × Value)) (s i : Nat), (Instr.findAsking kt (kv k) (ents kv M s) i).run P w = .ok (findM eqk k M i) w
  | [], _, _ => rfl
  | (a, v) :: M, s, i => by
    unfold ents Instr.findAsking findM
    rw [Sem.run_bind, K.eq k a w]
    simp only [Result.andThen_ok]
    cases eqk k a with
    | true => rfl
    | false => exact run_findAsking K k w M (s + 1) (i + 1)
theorem run_findKey (K : KeyT P kt κ kv eqk) (k : κ) (M : List (κ × Value)) (w : World) : (Instr.findKey kt (kv k) (ents kv M 0)).run P w = .ok (findM eqk k M 0) w := by
  obtain ⟨d, hd, hs⟩ := K.und
  unfold Instr.findKey
  rw [Sem.run_bind, run_underlying hd]
  simp only [Result.andThen_ok]
  cases M with
  | nil => rfl
  | cons p M =>
    have : Instr.findNow d (kv k) (ents kv (p :: M) 0) 0 = none := by
      show (match Instr.sameNow d (kv k) (kv p.1) with | some true => _ | some false => _ | none => none) = none
      rw [hs]
    rw [this]
    exact run_findAsking K k w (p :: M) 0 0
end
section
variable {P : Program} {C : World → Prop} {ρ : Operand → Value} {d : Option Tmp} {ty : TypeId} {pos : String} {af : Array Edge} {g : Option (Nat × Bool)} {κ : Type} {kv : κ → Value} {eqk : κ → κ → Bool} {kt : TypeId}
theorem run_lookup (K : KeyT P kt κ kv eqk) {t e : TypeId} {r : Nat} {k : κ} {M : List (κ × Value)} {z : Value} {w : World} (ht : P.underlying t = some (.map kt e)) (hz : ∀ w, (zeroValue e).run P w = .ok z w)
    (ho : w.heap[r]? = some (mob kv M)) : (Instr.lookup t (.map (some r)) (kv k) false).run P w = .ok (valM eqk k M z) w := by
  have h1 := MapKept.run_getObj_map (P := P) ho
  have h2 := fun e => K.chk e k w
  have h3 := run_findKey K k M w
  unfold Instr.lookup
  simp only [Sem.run_bind, run_underlying ht, Result.andThen_ok, h1, h2, Sem.run_pure, h3]
  unfold valM
  cases findM eqk k M 0 with
  | none => simp [hz]
  | some p => obtain ⟨i, v⟩ := p; simp
theorem lkp (K : KeyT P kt κ kv eqk) {t e : TypeId} {m x : Operand} {r : Nat} {k : κ} {M : List (κ × Value)} {z : Value} (ht : P.underlying t = some (.map kt e)) (hz : ∀ w, (zeroValue e).run P w = .ok z w)
    (hm : ρ m = .map (some r)) (hx : ρ x = kv k) (ho : ∀ w, C w → w.heap[r]? = some (mob kv M)) : Qu P C ρ ⟨d, .lookup t m x false, ty, pos, af, g⟩ (valM eqk k M z) :=
  qu_of_run fun w hw => by
    have := run_lookup K (k := k) ht hz (ho w hw)
    simp [execOp, hm, hx, this]
end
section
variable {P : Program} {κ : Type} {kv : κ → Value} {eqk : κ → κ → Bool} {kt : TypeId}
theorem ents_modify_key (M : List (κ × Value)) {i : Nat} {k a : κ} {v : Value} (hi : M[i]? = some (a, v)) (hs : kv a = kv k) : (ents kv M 0).toArray.modify i (fun e => { e with key := kv k }) = (ents kv M 0).toArray := by
  apply Array.ext_getElem?
  intro j
  rw [Array.getElem?_modify]
  by_cases hj : i = j
  · subst hj
    rw [if_pos rfl]
    simp only [List.getElem?_toArray, ents_get, hi, Option.map_some, hs]
  · rw [if_neg hj]
theorem ents_set (M : List (κ × Value)) (i : Nat) (v : Value) : (ents kv M 0).toArray.modify i (fun e => { e with val := v }) = (ents kv (setM M i v) 0).toArray := by
  apply Array.ext_getElem?
  intro j
  rw [Array.getElem?_modify]
  simp only [List.getElem?_toArray, ents_get, setM, List.getElem?_modify]
  by_cases hj : i = j
  · subst hj
    rw [if_pos rfl]
    cases M[i]? <;> simp
  · rw [if_neg hj]
    cases M[j]? <;> simp [hj]
theorem run_mapEntry (K : KeyT P kt κ kv eqk) {t e : TypeId} {r : Nat} {k : κ} {M : List (κ × Value)} {z : Value} {w : World} (ht : P.underlying t = some (.map kt e)) (hz : ∀ w, (zeroValue e).run P w = .ok z w)
    (ho : w.heap[r]? = some (mob kv M)) : (Instr.mapEntry t (.map (some r)) (kv k)).run P w = .ok (.tuple #[valM eqk k M z, goInt (idxM eqk k M)]) (setB w r (mob kv (putM eqk k M z))) := by
  have h1 := MapKept.run_getObj_map (P := P) ho
  have h2 := fun e => K.chk e k w
  have h3 := run_findKey K k M w
  have h4 := fun o => MapKept.run_setObj_map (P := P) (w := w) o ho
  unfold Instr.mapEntry
  simp only [Sem.run_bind, run_underlying ht, Result.andThen_ok, h1, h2, Sem.run_pure, h3]
  unfold valM idxM putM
  cases hf : findM eqk k M 0 with
  | none =>
    simp only [Sem.run_bind, hz, Result.andThen_ok, h4, Sem.run_pure]
    show Result.ok _ (setB w r _) = Result.ok _ (setB w r _)
    congr 2
    unfold mob
    congr 1
    · rw [ents_app]
      simp [ents]
    · simp
  | some p =>
    obtain ⟨i, v⟩ := p
    obtain ⟨a, h5, h6, h7⟩ := findM_lt eqk hf
    have h8 : (ents kv M 0)[i]? = some { key := kv a, val := v, born := i } := by
      rw [ents_get, show i = i - 0 by omega, h6]; simp
    have h9 : kv a = kv k := (K.same k a h7).symm
    have h10 : (Instr.keyThatStays (kv a) (kv k)).run P w = .ok (kv k) w := by
      unfold Instr.keyThatStays
      rw [h9, if_pos (K.bits k)]; rfl
    have h11 : ((((ents kv M 0).toArray[i]?).map (·.key)).getD (kv k)) = kv a := by
      rw [List.getElem?_toArray, h8]; rfl
    have h12 : ((((ents kv M 0).toArray[i]?).map (fun x => (x.born : Int))).getD 0) = (i : Int) := by
      rw [List.getElem?_toArray, h8]; rfl
    have h13 : ((((((ents kv M 0).toArray[i]?).map (·.born)).getD 0 : Nat)) : Int) = (i : Int) := by
      rw [List.getElem?_toArray, h8]; rfl
    simp only [Sem.run_bind, h11, h12, h13, h10, Result.andThen_ok, h4, Sem.run_pure]
    show Result.ok _ (setB w r _) = Result.ok _ (setB w r _)
    rw [ents_modify_key M (by simpa using h6) h9]
    rfl
theorem find_born (M : List (κ × Value)) {i : Nat} (hi : i < M.length) : ((ents kv M 0).toArray.findIdx? (fun e => (e.born : Int) == (i : Int))) = some i := by
  rw [List.findIdx?_toArray, List.findIdx?_eq_some_iff_getElem]
  have hl : i < (ents kv M 0).length := by rw [ents_len]; exact hi
  have hg : ∀ j (h : j < (ents kv M 0).length), ((ents kv M 0)[j]).born = j := by
    intro j h
    have h1 := ents_get kv M 0 j
    rw [List.getElem?_eq_getElem h] at h1
    have h2 : j < M.length := by rw [ents_len] at h; exact h
    rw [List.getElem?_eq_getElem h2] at h1
    simp only [Option.map_some, Option.some.injEq] at h1
    rw [h1]; simp
  refine ⟨hl, by rw [hg i hl]; simp, fun j hj => ?_⟩
  rw [hg j (by omega)]
  simp; omega
theorem run_entryStore {t : TypeId} {r i : Nat} {M : List (κ × Value)} {v : Value} {w : World} (ho : w.heap[r]? = some (mob kv M)) (hi : i < M.length) : (Instr.entryStore t (.map (some r)) (goInt i) v).run P w = .ok () (setB w r (mob kv (setM M i v))) := by
  have h1 := MapKept.run_getObj_map (P := P) ho
  have h4 := fun o => MapKept.run_setObj_map (P := P) (w := w) o ho
  have ha : (asInt (.int .i64 (i : Int))).run P w = .ok (i : Int) w := by simp [asInt, asIntOf]
  unfold Instr.entryStore
  simp only [Sem.run_bind, h1, Result.andThen_ok, goInt, ha, Sem.run_pure]
  rw [find_born M hi]
  simp only [h4]
  show Result.ok _ (setB w r _) = Result.ok _ (setB w r _)
  rw [ents_set]
  unfold mob setM
  simp
end
section
variable {P : Program} {ops : Array Oper} {Q : Exit → Act → World → Prop} {w0 : World} {H : List Ent} {rest : List Oper} {n : Nat} {F : Nat → Value} {d : Nat} {ty : TypeId} {pos : String} {af : Array Edge} {κ : Type} {kv : κ → Value} {eqk : κ → κ → Bool} {kt : TypeId}
theorem lme (K : KeyT P kt κ kv eqk) {t e : TypeId} {m x : Operand} {r : Nat} {k : κ} {M : List (κ × Value)} {z : Value} (ht : P.underlying t = some (.map kt e)) (hz : ∀ w, (zeroValue e).run P w = .ok z w)
    (hm : ev n F m = .map (some r)) (hx : ev n F x = kv k) (hr : r < w0.heap.size) (ho : w0.heap[r]? = some (mob kv M))
    (h : WL P ops Q (setB w0 r (mob kv (putM eqk k M z))) H rest n (upd F d (.tuple #[valM eqk k M z, goInt (idxM eqk k M)]))) :
    WL P ops Q w0 H (⟨some d, .mapEntry t m x, ty, pos, af, none⟩ :: rest) n F := fun w hw => wpList_plain rfl fun K' hK => by
  have hrun := run_mapEntry K (k := k) ht hz ((hw.below.block r hr).trans ho)
  have hr' : (execOp (fr n F).eval ⟨some d, .mapEntry t m x, ty, pos, af, none⟩).run P w = .ok (.value (.tuple #[valM eqk k M z, goInt (idxM eqk k M)])) (setB w r (mob kv (putM eqk k M z))) := by
    simp [execOp, fr_eval, hm, hx, hrun]
  unfold Oper.wp
  rw [hr']
  exact hK _ _ (by rw [fr_put]; exact h _ (hw.setB hr _))
theorem lesm {t : TypeId} {m s x : Operand} {r i : Nat} {M : List (κ × Value)} {v : Value}
    (hm : ev n F m = .map (some r)) (hs : ev n F s = goInt i) (hx : ev n F x = v) (hr : r < w0.heap.size) (ho : w0.heap[r]? = some (mob kv M)) (hi : i < M.length)
    (h : WL P ops Q (setB w0 r (mob kv (setM M i v))) H rest n F) :
    WL P ops Q w0 H (⟨none, .entryStore t m s x, ty, pos, af, none⟩ :: rest) n F := fun w hw => wpList_plain rfl fun K' hK => by
  have hrun := run_entryStore (P := P) (t := t) (v := v) ((hw.below.block r hr).trans ho) hi
  have hr' : (execOp (fr n F).eval ⟨none, .entryStore t m s x, ty, pos, af, none⟩).run P w = .ok .skip (setB w r (mob kv (setM M i v))) := by
    simp [execOp, fr_eval, hm, hs, hx, hrun]
  unfold Oper.wp
  rw [hr']
  exact hK _ _ (by first | (rw [fr_put_none]; exact h _ (hw.setB hr _)) | exact h _ (hw.setB hr _))
/-- a map made: the walk goes on above it -/
theorem lmkm (kv : κ → Value) {t : TypeId} (h : ∀ w1 r, Below w0.heap.size w0 w1 → w0.heap.size ≤ r → r < w1.heap.size → w1.heap[r]? = some (mob kv []) → WL P ops Q w1 [] rest n (upd F d (.map (some r)))) :
    WL P ops Q w0 [] (⟨some d, .makeMap t none, ty, pos, af, none⟩ :: rest) n F := fun w hw => wpList_plain rfl fun K' hK => by
  have hr' : (execOp (fr n F).eval ⟨some d, .makeMap t none, ty, pos, af, none⟩).run P w = .ok (.value (.map (some w.heap.size))) (w.alloc (.map #[] 0)) := by
    simp [execOp, Instr.makeMap, newObj, Sem.run]
  unfold Oper.wp
  rw [hr']
  refine hK _ _ ?_
  rw [fr_put]
  exact h _ w.heap.size (hw.below.trans ((Below.refl _ _).alloc hw.below.size _)) hw.below.size (by show w.heap.size < (w.heap.push _).size; rw [Array.size_push]; omega) (by show (w.heap.push _)[w.heap.size]? = _; rw [Array.getElem?_push_size]; rfl) _ (Sat.start _)
end
section
variable {P : Program} {Q : Exit → Act → World → Prop} {w0 : World} {H : List Ent} {x : Code} {n : Nat} {F : Nat → Value}
/-- a loop whose base changes from round to round -/
def IQB {σ : Type} (B : σ → World) (n : Nat) (ov : σ → List (Nat × Value)) (Hs : σ → List Ent) (I : σ → Prop) (μ : σ → Nat) (s : σ) : Act → World → Prop :=
  fun a w => ∃ s' j, I s' ∧ μ s' < μ s ∧ a = fr n (over j (ov s')) ∧ Sat (B s') (Hs s') w
theorem cloopB {σ : Type} (B : σ → World) (ov : σ → List (Nat × Value)) (Hs : σ → List Ent) (I : σ → Prop) (μ : σ → Nat)
    (s : σ) (hB : B s = w0) (hI : I s) (hF : AllEq F (ov s)) (hH : (Hs s).Sublist H)
    (round : ∀ s j, I s → WC P (Exit.then (IQB B n ov Hs I μ s) Q) (B s) (Hs s) x n (over j (ov s))) : WC P Q w0 H (.loop x) n F := by
  have key : ∀ m s j w, μ s < m → I s → Sat (B s) (Hs s) w → Code.rounds P x Q m (fr n (over j (ov s))) w := by
    intro m
    induction m with
    | zero => intro s j w hm; omega
    | succ m ih =>
      intro s j w hm hI hw
      refine Code.wp_mono (fun e a w q => ?_) (round s j hI w hw)
      cases e <;> first | exact q | skip
      obtain ⟨s', j', h1, h2, h3, h4⟩ := q
      subst h3
      exact ih s' j' w (by omega) h1 h4
  refine cloopN (μ s + 1) fun w hw => ?_
  have := key (μ s + 1) s F w (by omega) hI (by rw [hB]; exact hw.sub hH)
  rwa [over_same hF] at this
theorem nIB {σ : Type} {B : σ → World} {ov : σ → List (Nat × Value)} {Hs : σ → List Ent} {I : σ → Prop} {μ : σ → Nat} {s : σ} (s' : σ) (hB : B s' = w0) (hI : I s') (hμ : μ s' < μ s) (hF : AllEq F (ov s'))
    (hH : (Hs s').Sublist H) : NQ (Exit.then (IQB B n ov Hs I μ s) Q) w0 H .normal n F := fun w hw =>
  ⟨s', F, hI, hμ, by rw [over_same hF], by rw [hB]; exact hw.sub hH⟩
/-- the end of a function, by what it is to show -/
theorem finB {fn : Func} {R : Ending → World → Prop} (v : Value) (hr : ∀ w, Sat w0 H w → (results fn (fr n F).tmps).run P w = .ok v w) (hR : ∀ w, Sat w0 H w → R (.returned v) w) :
    NQ (bodyPost P fn R) w0 H .ret n F := fun w hw => ⟨rfl, v, hr w hw, hR w hw⟩
end
theorem lkpv {P : Program} {C : World → Prop} {ρ : Operand → Value} {d : Option Tmp} {ty : TypeId} {pos : String} {af : Array Edge} {g : Option (Nat × Bool)} {κ : Type} {kv : κ → Value} {eqk : κ → κ → Bool} {kt : TypeId}
    (K : KeyT P kt κ kv eqk) {t e : TypeId} {m x : Operand} {r : Nat} {k : κ} {M : List (κ × Value)} {z v : Value} (ht : P.underlying t = some (.map kt e)) (hz : ∀ w, (zeroValue e).run P w = .ok z w)
    (hm : ρ m = .map (some r)) (hx : ρ x = kv k) (ho : ∀ w, C w → w.heap[r]? = some (mob kv M)) (hv : valM eqk k M z = v) : Qu P C ρ ⟨d, .lookup t m x false, ty, pos, af, g⟩ v := by
  subst hv; exact lkp K ht hz hm hx ho
theorem setB_setB {w : World} {r : Nat} {a b : Obj} : setB (setB w r a) r b = setB w r b := by
  unfold setB
  simp
end Jal
/- the keys of this program's maps -/
namespace Go.Proofs.Ytkdbjhlkahkobaa
open Jal Go.RowKit
set_option maxRecDepth 100000
def kv34 (t : Nat → Int) : Value := .agg (arr .u8 16 t).toArray
def kv140 (p : Int × Int) : Value := .agg [.int .i64 p.1, .int .u64 p.2].toArray
def eq140 (a b : Int × Int) : Bool := decide (a.1 = b.1) && decide (a.2 = b.2)
theorem bits_zip {m : Nat} : ∀ (l : List Value), (∀ x ∈ l, Instr.sameBits m x x = true) → ((l.zip l).all fun (x, y) => Instr.sameBits m x y) = true
  | [], _ => rfl
  | a :: l, h => by
    rw [List.zip_cons_cons, List.all_cons, bits_zip l (fun x hx => h x (List.mem_cons_of_mem _ hx))]
    simp [h a (by simp)]
theorem bits_agg {m : Nat} (l : List Value) (h : ∀ x ∈ l, Instr.sameBits m x x = true) : Instr.sameBits (m + 1) (.agg l.toArray) (.agg l.toArray) = true := by
  show (l.toArray.size == l.toArray.size && (l.zip l).all fun (x, y) => Instr.sameBits m x y) = true
  rw [bits_zip l h]; simp
theorem bits_int {m : Nat} (k : IntKind) (a : Int) : Instr.sameBits m (.int k a) (.int k a) = true := by
  unfold Instr.sameBits; simp
theorem K34 : KeyT Try.prog 34 (Nat → Int) kv34 (eqA 16) where
  und := ⟨_, Try.underlying34, fun _ _ => rfl⟩
  chk e a w := by cases e <;> kernel_rfl
  eq a b w := arr_eq 9998 Try.underlying34 Try.underlying5 (by kernel_rfl) a b w
  same a b h := by
    have h1 := eqA_iff.1 h
    unfold kv34 arr
    congr 2
    exact List.map_congr_left fun i hi => by rw [h1 i (List.mem_range.1 hi)]
  bits a := bits_agg _ (fun x hx => by
    obtain ⟨i, _, rfl⟩ := List.mem_map.1 hx
    exact bits_int _ _)
theorem eq140_run (a b : Int × Int) (w : World) : (Op.equal 140 (kv140 a) (kv140 b)).run Try.prog w = .ok (eq140 a b) w := by
  obtain ⟨a1, a2⟩ := a
  obtain ⟨b1, b2⟩ := b
  show (Op.equalIn (9999 + 1) 140 (.agg [.int .i64 a1, .int .u64 a2].toArray) (.agg [.int .i64 b1, .int .u64 b2].toArray)).run Try.prog w = _
  rw [run_equalIn_struct w 9999 140 _ _ (by kernel_rfl) (by kernel_rfl)]
  unfold Program.fieldsOf
  rw [Try.underlying140]
  have p1 : ∀ (x y : Int) w, (part 3 [.int .i64 x, .int .u64 y].toArray 0).run Try.prog w = .ok (.int .i64 x) w := fun x y w => by kernel_rfl
  have p2 : ∀ (x y : Int) w, (part 22 [.int .i64 x, .int .u64 y].toArray 1).run Try.prog w = .ok (.int .u64 y) w := fun x y w => by kernel_rfl
  have q1 := fun w => run_equalIn_int (P := Try.prog) w 9998 3 .i64 .i64 a1 b1 Try.underlying3
  have q2 := fun w => run_equalIn_int (P := Try.prog) w 9998 22 .u64 .u64 a2 b2 Try.underlying22
  simp only [Op.eqFields, Sem.run_bind, Sem.run_ite, p1, p2, Result.andThen_ok, q1, q2, Sem.run_pure]
  unfold eq140
  by_cases h1 : a1 = b1 <;> by_cases h2 : a2 = b2 <;> simp [h1, h2]
theorem K140 : KeyT Try.prog 140 (Int × Int) kv140 eq140 where
  und := ⟨_, Try.underlying140, fun _ _ => rfl⟩
  chk e a w := by cases e <;> kernel_rfl
  eq := eq140_run
  same a b h := by
    unfold eq140 at h
    simp only [Bool.and_eq_true, decide_eq_true_eq] at h
    unfold kv140
    rw [h.1, h.2]
  bits a := bits_agg _ (fun x hx => by
    simp only [List.mem_cons, List.not_mem_nil, or_false] at hx
    rcases hx with rfl | rfl <;> exact bits_int _ _)
end Go.Proofs.Ytkdbjhlkahkobaa
/- drawn regions and calls with maps -/
/- a region that draws its order, in which a map is changed -/
namespace Jal
open Go Go.RowKit
def SXB (Hx : List Ent) (w : World) : Prop := ∃ W, Sat W Hx w
section
variable {P : Program} {ops : Array Oper} {Q : Exit → Act → World → Prop} {w0 : World} {H : List Ent} {n : Nat} {F : Nat → Value} {Hx : List Ent} {fuel : Nat} {listed : Array Bool}
theorem cregHB {id : Nat} {l : List Oper} (Hx : List Ent) (m : Nat) (hm : P.follows .mixedOrders = true) (hz : l.length = m)
    (h : WH P l.toArray Q (SXB Hx) w0 H m (Array.replicate m false) n F) : WC P Q w0 H (.region id l.toArray true) n F := fun w hw => by
  subst hz
  refine wp_region_held (S := SXB Hx) hm ?_
  have := h w.drew hw.drew
  simpa using this
theorem hq1B (i : Nat) {d : Nat} {op : Op} {ty : TypeId} {pos : String} {af : Array Edge} {v : Value} (hi : ops[i]? = some ⟨some d, op, ty, pos, af, none⟩) (hs : Region.noSelect ops = true) (hf : Region.free .any ops listed i = true)
    (hr : (Region.ready .any ops listed).contains i = true) (hQ : ∀ c a w, Q (.panic c) (a.put (some d) v) w → Q (.panic c) a w)
    (hX : (∃ E : Sem Value, execOp (ev n F) ⟨some d, op, ty, pos, af, none⟩ = (do let u ← E; pure (Next.value u))) ∨ ∃ u, execOp (ev n F) ⟨some d, op, ty, pos, af, none⟩ = pure (Next.value u)) (hS : ∀ w, Sat w0 H w → SXB Hx w)
    (hq : ∀ W, Qu P (Sat W Hx) (ev n F) ⟨some d, op, ty, pos, af, none⟩ v) (h : WH P ops Q (SXB Hx) w0 H fuel (listed.setIfInBounds i true) n (upd F d v)) :
    WH P ops Q (SXB Hx) w0 H (fuel + 1) listed n F := fun w hw =>
  wpAnyH_take hi hs hf hr hQ (.inl ⟨rfl, fun w ⟨x, hx⟩ => by rw [fr_eval]; exact pure_of_qu hX (hq x) w hx⟩) (hS w hw) (by rw [fr_put]; exact h w hw)
end
end Jal
/- a call that hands back a world to stand upon, and the way back -/
namespace Jal
open Go Go.RowKit
/-- a callee's answer: above a base that holds what it made -/
def BaseR (Φ : Value → World → List Ent → Prop) (w : World) : Ending → World → Prop := fun e w' => ∃ v W Hn, e = .returned v ∧ Below w.heap.size w W ∧ Φ v W Hn ∧ Sat W Hn w'
theorem Sat.unbase {w0 wc W w : World} {H Hn : List Ent} (hc : Sat w0 H wc) (hb : Below wc.heap.size wc W) (h : Sat W Hn w) : Sat w0 (H ++ Hn) w := by
  have h1 : Sat w0 H W := hc.step hb
  exact h1.join h
theorem nq_imp {Q : Exit → Act → World → Prop} {w0 w1 : World} {H H1 : List Ent} {e : Exit} {n : Nat} {F : Nat → Value} (hi : ∀ w, Sat w1 H1 w → Sat w0 H w) (h : NQ Q w0 H e n F) : NQ Q w1 H1 e n F := fun w hw => h w (hi w hw)
theorem wl_imp {P : Program} {ops rest} {Q : Exit → Act → World → Prop} {w0 w1 : World} {H H1 : List Ent} {n : Nat} {F : Nat → Value} (hi : ∀ w, Sat w1 H1 w → Sat w0 H w) (h : WL P ops Q w0 H rest n F) : WL P ops Q w1 H1 rest n F := fun w hw => h w (hi w hw)
section
variable {P : Program} {ops : Array Oper} {Q : Exit → Act → World → Prop} {w0 : World} {H : List Ent} {rest : List Oper} {n : Nat} {F : Nat → Value} {d : Nat} {ty : TypeId} {pos : String} {af : Array Edge}
theorem lclB {f : FuncId} {fx : Operand} {xs : List Operand} {ats : Array TypeId} {args : List Value} {Φ : Value → World → List Ent → Prop} (hb : HasBody P f) (hfx : ev n F fx = .func (.func f) #[] #[])
    (hx : xs.map (ev n F) = args) (hc : ∀ w, Sat w0 H w → Calls P f args.toArray w (BaseR Φ w))
    (h : ∀ v W Hn, Φ v W Hn → (∀ w', Sat W Hn w' → Sat w0 (H ++ Hn) w') → WL P ops Q W Hn rest n (upd F d v)) :
    WL P ops Q w0 H (⟨some d, .call { callee := .value fx, args := xs.toArray, argTypes := ats }, ty, pos, af, none⟩ :: rest) n F := fun w hw => wpList_plain rfl fun K hK => by
  obtain ⟨fn, h1, h2, h3⟩ := hb.h
  obtain ⟨c, hcb⟩ := Option.isSome_iff_exists.1 h3
  have h2' : fn.name ≠ "runtime.NumGoroutine" := by simpa using h2
  have hr : (execOp (ev n F) ⟨some d, .call { callee := .value fx, args := xs.toArray, argTypes := ats }, ty, pos, af, none⟩).run P w = .ok (.enter f args.toArray) w := by
    simp [execOp, resolve, hfx, hx, Deferred.ofValue, invoke, callFunc, Sem.run, program, h1, h2', hcb]
  unfold Oper.wp
  rw [fr_eval, hr]
  refine (hc w hw).mono fun e w' ⟨v, W, Hn, h4, h5, h6, h7⟩ => ?_
  subst h4
  exact hK _ _ (by rw [fr_put]; exact h v W Hn h6 (fun w2 h2 => hw.unbase h5 h2) _ h7)
end
end Jal
/- rows parted by item; the rows of an item -/
/- rows parted by item: plain laws -/
namespace Go.Proofs.Ytkdbjhlkahkobaa
open Jal Go.RowKit
set_option maxRecDepth 100000
def keyR (r : Rw) : Int × Int := (r.hd.writer, r.hd.seq)
def seenR (S : List Rw) (r : Rw) : Bool := S.any fun s => eq140 (keyR r) (keyR s)
def cntStep (S : List Rw) (r : Rw) : List Rw := bif !formedR r || seenR S r then S else S ++ [r]
def counted (l : Nat → Rw) (i : Nat) : List Rw := (rowsL l i).foldl cntStep []
theorem rowsL_succ (l : Nat → Rw) (i : Nat) : rowsL l (i + 1) = rowsL l i ++ [l i] := by unfold rowsL; rw [List.range_succ, List.map_append]; rfl
theorem counted_succ (l : Nat → Rw) (i : Nat) : counted l (i + 1) = cntStep (counted l i) (l i) := by
  unfold counted
  rw [rowsL_succ, List.foldl_append]; rfl
theorem counted_len (l : Nat → Rw) : ∀ i, (counted l i).length ≤ i
  | 0 => Nat.le_refl _
  | i + 1 => by
    rw [counted_succ]
    have := counted_len l i
    unfold cntStep
    cases !formedR (l i) || seenR (counted l i) (l i) with
    | true => show (counted l i).length ≤ _; omega
    | false => show (counted l i ++ [l i]).length ≤ _; rw [List.length_append]; simp; omega
/-- a group: token, rows, where they lie -/
structure Gp where
  tok : Nat → Int
  rows : List Rw
  v : Value
  oe : List Ent
def one64 : Value := .int .i64 1
def cm (S : List Rw) : List ((Int × Int) × Value) := S.map fun r => (keyR r, one64)
def gm (G : List Gp) : List ((Nat → Int) × Value) := G.map fun g => (g.tok, g.v)
def gh (G : List Gp) : List Ent := G.flatMap (·.oe)
theorem cm_len (S : List Rw) : (cm S).length = S.length := by simp [cm]
theorem cm_find (r : Rw) : ∀ (S : List Rw) (i : Nat), findM eq140 (keyR r) (cm S) i = none ∧ seenR S r = false ∨ ∃ j, findM eq140 (keyR r) (cm S) i = some (j, one64) ∧ seenR S r = true
  | [], _ => .inl ⟨rfl, rfl⟩
  | s :: S, i => by
    show (bif eq140 (keyR r) (keyR s) then some (i, one64) else findM eq140 (keyR r) (cm S) (i + 1)) = none ∧ _ ∨ ∃ j, (bif eq140 (keyR r) (keyR s) then some (i, one64) else findM eq140 (keyR r) (cm S) (i + 1)) = some (j, one64) ∧ _
    have e : seenR (s :: S) r = (eq140 (keyR r) (keyR s) || seenR S r) := rfl
    rw [e]
    cases eq140 (keyR r) (keyR s) with
    | true => exact .inr ⟨i, rfl, rfl⟩
    | false => exact cm_find r S (i + 1)
/-- how often it was seen -/
theorem cm_val (S : List Rw) (r : Rw) : valM eq140 (keyR r) (cm S) (.int .i64 0) = .int .i64 (bif seenR S r then 1 else 0) := by
  unfold valM
  rcases cm_find r S 0 with ⟨h1, h2⟩ | ⟨j, h1, h2⟩
  · rw [h1, h2]; rfl
  · rw [h1, h2]; rfl
theorem cm_put {S : List Rw} {r : Rw} (h : seenR S r = false) (z : Value) : putM eq140 (keyR r) (cm S) z = cm S ++ [(keyR r, z)] ∧ idxM eq140 (keyR r) (cm S) = S.length := by
  rcases cm_find r S 0 with ⟨h1, _⟩ | ⟨j, _, h2⟩
  · unfold putM idxM
    rw [h1]
    exact ⟨rfl, cm_len S⟩
  · rw [h] at h2; cases h2
theorem setM_last {κ : Type} (k : κ) (z v : Value) : ∀ (M : List (κ × Value)), setM (M ++ [(k, z)]) M.length v = M ++ [(k, v)]
  | [] => rfl
  | p :: M => by
    have h := setM_last k z v M
    show p :: setM (M ++ [(k, z)]) M.length v = p :: (M ++ [(k, v)])
    rw [h]
/-- after its entry was made, it is there with 0 -/
theorem cm_val2 {S : List Rw} {r : Rw} (h : seenR S r = false) : valM eq140 (keyR r) (cm S ++ [(keyR r, .int .i64 0)]) (.int .i64 0) = .int .i64 0 := by
  have : ∀ (S : List Rw) i, seenR S r = false → ∃ j, findM eq140 (keyR r) (cm S ++ [(keyR r, .int .i64 0)]) i = some (j, .int .i64 0) := by
    intro S
    induction S with
    | nil =>
      intro i _
      refine ⟨i, ?_⟩
      show (bif eq140 (keyR r) (keyR r) then _ else _) = _
      have : eq140 (keyR r) (keyR r) = true := by simp [eq140]
      rw [this]; rfl
    | cons s S ih =>
      intro i hs
      have e : seenR (s :: S) r = (eq140 (keyR r) (keyR s) || seenR S r) := rfl
      rw [e, Bool.or_eq_false_iff] at hs
      obtain ⟨j, hj⟩ := ih (i + 1) hs.2
      refine ⟨j, ?_⟩
      show (bif eq140 (keyR r) (keyR s) then _ else _) = _
      rw [hs.1]
      exact hj
  obtain ⟨j, hj⟩ := this S 0 h
  unfold valM
  rw [hj]
/-- one row more, put into its group -/
def addP (G : List ((Nat → Int) × List Rw)) (r : Rw) : List ((Nat → Int) × List Rw) :=
  match G with
  | [] => [(r.hd.item, [r])]
  | (t, R) :: G => bif eqA 16 r.hd.item t then (t, R ++ [r]) :: G else (t, R) :: addP G r
def partsOf (C : List Rw) : List ((Nat → Int) × List Rw) := C.foldl addP []
def GpOk (g : Gp) : Prop := OwnL 79 130 g.v g.rows.length (g.rows.flatMap encR) g.oe
def pg (G : List Gp) : List ((Nat → Int) × List Rw) := G.map fun g => (g.tok, g.rows)
def znil : Value := .slice none 0 0
theorem grp_step (r : Rw) (N : Nat) : ∀ (G : List Gp) (i : Nat), (∀ g ∈ G, GpOk g) → (∀ g ∈ G, g.rows.length ≤ N) →
    ∃ A B oe rows v j, gh G = A ++ (oe ++ B) ∧ OwnL 79 130 v rows.length (rows.flatMap encR) oe ∧ rows.length ≤ N ∧
      ((findM (eqA 16) r.hd.item (gm G) i = some (i + j, v) ∧ j < G.length) ∨ (findM (eqA 16) r.hd.item (gm G) i = none ∧ v = znil ∧ j = G.length)) ∧
      ∀ v' oe', OwnL 79 130 v' (rows.length + 1) ((rows ++ [r]).flatMap encR) oe' → ∃ G', gh G' = A ++ (oe' ++ B) ∧ (∀ g ∈ G', GpOk g) ∧ (∀ g ∈ G', g.rows.length ≤ N + 1) ∧ pg G' = addP (pg G) r ∧
        gm G' = setM (bif decide (j < G.length) then gm G else gm G ++ [(r.hd.item, znil)]) j v'
  | [], i, _, _ => by
    refine ⟨[], [], [], [], znil, 0, rfl, OwnL.nil 79 130, Nat.zero_le _, .inr ⟨rfl, rfl, rfl⟩, fun v' oe' h => ⟨[⟨r.hd.item, [r], v', oe'⟩], by simp [gh], fun g hg => ?_, fun g hg => ?_, rfl, rfl⟩⟩
    · obtain rfl := List.mem_singleton.1 hg; exact h
    · obtain rfl := List.mem_singleton.1 hg; simp
  | g :: G, i, hok, hN => by
    have e0 : findM (eqA 16) r.hd.item (gm (g :: G)) i = bif eqA 16 r.hd.item g.tok then some (i, g.v) else findM (eqA 16) r.hd.item (gm G) (i + 1) := rfl
    have e1 : addP (pg (g :: G)) r = bif eqA 16 r.hd.item g.tok then (g.tok, g.rows ++ [r]) :: pg G else (g.tok, g.rows) :: addP (pg G) r := rfl
    rw [e0, e1]
    cases hq : eqA 16 r.hd.item g.tok with
    | true =>
      refine ⟨[], gh G, g.oe, g.rows, g.v, 0, rfl, hok g (by simp), hN g (by simp), .inl ⟨rfl, by simp⟩, fun v' oe' h => ⟨⟨g.tok, g.rows ++ [r], v', oe'⟩ :: G, rfl, fun x hx => ?_, fun x hx => ?_, rfl, ?_⟩⟩
      · rcases List.mem_cons.1 hx with rfl | hx
        · unfold GpOk; rw [List.length_append]; exact h
        · exact hok x (List.mem_cons_of_mem _ hx)
      · rcases List.mem_cons.1 hx with rfl | hx
        · have := hN g (by simp)
          show (g.rows ++ [r]).length ≤ _
          rw [List.length_append]; simp; omega
        · have := hN x (List.mem_cons_of_mem _ hx); omega
      · have : decide (0 < (g :: G).length) = true := by simp
        rw [this]; rfl
    | false =>
      obtain ⟨A, B, oe, rows, v, j, h1, h2, h3, h4, h5⟩ := grp_step r N G (i + 1) (fun x hx => hok x (List.mem_cons_of_mem _ hx)) (fun x hx => hN x (List.mem_cons_of_mem _ hx))
      refine ⟨g.oe ++ A, B, oe, rows, v, j + 1, ?_, h2, h3, ?_, fun v' oe' h => ?_⟩
      · show g.oe ++ gh G = _
        rw [h1, List.append_assoc]
      · rcases h4 with ⟨h4, h6⟩ | ⟨h4, h6, h7⟩
        · exact .inl ⟨by show findM (eqA 16) r.hd.item (gm G) (i + 1) = _; rw [h4, show i + 1 + j = i + (j + 1) by omega], by simp; omega⟩
        · exact .inr ⟨h4, h6, by simp; omega⟩
      · obtain ⟨G', g1, g2, g3, g4, g5⟩ := h5 v' oe' h
        refine ⟨g :: G', ?_, fun x hx => ?_, fun x hx => ?_, ?_, ?_⟩
        · show g.oe ++ gh G' = _
          rw [g1, List.append_assoc]
        · rcases List.mem_cons.1 hx with rfl | hx
          · exact hok _ (by simp)
          · exact g2 x hx
        · rcases List.mem_cons.1 hx with rfl | hx
          · have := hN x (by simp); omega
          · exact g3 x hx
        · show (g.tok, g.rows) :: pg G' = _
          rw [g4]; rfl
        · have e2 : decide (j + 1 < (g :: G).length) = decide (j < G.length) := by simp
          rw [e2]
          show (g.tok, g.v) :: gm G' = _
          rw [g5]
          cases decide (j < G.length) <;> rfl
theorem cm_val0 {S : List Rw} {r : Rw} (h : seenR S r = false) : valM eq140 (keyR r) (cm S) (.int .i64 0) = .int .i64 0 := by rw [cm_val, h]; rfl
theorem cm_set (S : List Rw) (r : Rw) (z : Value) : setM (cm S ++ [(keyR r, z)]) S.length one64 = cm (S ++ [r]) := by
  have := setM_last (keyR r) z one64 (cm S)
  rw [cm_len] at this
  rw [this]
  unfold cm
  rw [List.map_append]; rfl
def gput (G : List Gp) (r : Rw) (j : Nat) : List ((Nat → Int) × Value) := bif decide (j < G.length) then gm G else gm G ++ [(r.hd.item, znil)]
theorem grp_find {G : List Gp} {r : Rw} {v : Value} {j : Nat} (h : (findM (eqA 16) r.hd.item (gm G) 0 = some (0 + j, v) ∧ j < G.length) ∨ (findM (eqA 16) r.hd.item (gm G) 0 = none ∧ v = znil ∧ j = G.length)) :
    valM (eqA 16) r.hd.item (gm G) znil = v ∧ idxM (eqA 16) r.hd.item (gm G) = j ∧ putM (eqA 16) r.hd.item (gm G) znil = gput G r j ∧ j < (gput G r j).length := by
  have hl : (gm G).length = G.length := by simp [gm]
  unfold valM idxM putM gput
  rcases h with ⟨h, hj⟩ | ⟨h, hv, hj⟩
  · rw [h, decide_eq_true hj]
    exact ⟨rfl, by simp, rfl, by show j < (gm G).length; omega⟩
  · rw [h, decide_eq_false (by omega)]
    exact ⟨hv.symm, by show (gm G).length = j; omega, rfl, by show j < (gm G ++ [_]).length; simp; omega⟩
structure ParS where
  i : Nat
  G : List Gp
  S : List Rw
  W : World
structure ParOk (w : World) (r1 r2 : Nat) (l : Nat → Rw) (n : Nat) (s : ParS) : Prop where
  hi : s.i ≤ n
  below : Below w.heap.size w s.W
  lo1 : w.heap.size ≤ r1
  lo2 : w.heap.size ≤ r2
  l1 : r1 < s.W.heap.size
  l2 : r2 < s.W.heap.size
  ne : r1 ≠ r2
  o1 : s.W.heap[r1]? = some (mob kv34 (gm s.G))
  o2 : s.W.heap[r2]? = some (mob kv140 (cm s.S))
  cnt : s.S = counted l s.i
  grp : pg s.G = partsOf s.S
  ok : ∀ g ∈ s.G, GpOk g
  len : ∀ g ∈ s.G, g.rows.length ≤ s.i
theorem Below_setB {w W : World} (h : Below w.heap.size w W) {r : Nat} (hr : w.heap.size ≤ r) (o : Obj) : Below w.heap.size w (setB W r o) :=
  ⟨h.os, h.tape, h.output, by rw [setB_size]; exact h.size, fun k hk => by rw [setB_other (by omega)]; exact h.block k hk⟩
theorem ParOk.skip {w : World} {r1 r2 : Nat} {l : Nat → Rw} {n : Nat} {s : ParS} (h : ParOk w r1 r2 l n s) (hi : s.i < n) (hk : (!formedR (l s.i) || seenR s.S (l s.i)) = true) : ParOk w r1 r2 l n ⟨s.i + 1, s.G, s.S, s.W⟩ :=
  ⟨hi, h.below, h.lo1, h.lo2, h.l1, h.l2, h.ne, h.o1, h.o2, by
    show s.S = counted l (s.i + 1)
    rw [counted_succ, ← h.cnt]
    unfold cntStep
    rw [hk]; rfl, h.grp, h.ok, fun g hg => Nat.le_succ_of_le (h.len g hg)⟩
theorem ParOk.next {w : World} {r1 r2 : Nat} {l : Nat → Rw} {n : Nat} {s : ParS} (h : ParOk w r1 r2 l n s) (hi : s.i < n) (hk : (!formedR (l s.i) || seenR s.S (l s.i)) = false) {G' : List Gp}
    (h1 : ∀ g ∈ G', GpOk g) (h2 : ∀ g ∈ G', g.rows.length ≤ s.i + 1) (h3 : pg G' = addP (pg s.G) (l s.i)) : ParOk w r1 r2 l n ⟨s.i + 1, G', s.S ++ [l s.i], setB (setB s.W r2 (mob kv140 (cm (s.S ++ [l s.i])))) r1 (mob kv34 (gm G'))⟩ :=
  ⟨hi, Below_setB (Below_setB h.below h.lo2 _) h.lo1 _, h.lo1, h.lo2, by rw [setB_size, setB_size]; exact h.l1, by rw [setB_size, setB_size]; exact h.l2, h.ne, setB_same (by rw [setB_size]; exact h.l1),
    by rw [setB_other (fun e => h.ne e.symm)]; exact setB_same h.l2, by
      show s.S ++ [l s.i] = counted l (s.i + 1)
      rw [counted_succ, ← h.cnt]
      unfold cntStep
      rw [hk]; rfl, by
      show pg G' = partsOf (s.S ++ [l s.i])
      rw [h3, h.grp]
      unfold partsOf
      rw [List.foldl_append]; rfl, h1, h2⟩
/-- what parting gives -/
def PartR (w : World) (l : Nat → Rw) (n : Nat) : Ending → World → Prop := fun e w' => ∃ r W G, e = .returned (.map (some r)) ∧ Below w.heap.size w W ∧ w.heap.size ≤ r ∧ r < W.heap.size ∧ W.heap[r]? = some (mob kv34 (gm G)) ∧ (∀ g ∈ G, GpOk g) ∧
  pg G = partsOf (counted l n) ∧ (∀ g ∈ G, g.rows.length ≤ n) ∧ Sat W (gh G) w'
theorem bk140 (a b : Int) : ∀ w, (Instr.build 140 #[(0, .int .i64 a), (1, .int .u64 b)]).run Try.prog w = .ok (.agg [.int .i64 a, .int .u64 b].toArray) w := fun w => by kernel_rfl
end Go.Proofs.Ytkdbjhlkahkobaa
/- the rows of an item -/
namespace Go.Proofs.Ytkdbjhlkahkobaa
open Jal Go.RowKit
set_option maxRecDepth 100000
theorem eqA_symm {n : Nat} {a b : Nat → Int} (h : eqA n a b = true) : eqA n b a = true := eqA_iff.2 fun i hi => (eqA_iff.1 h i hi).symm
theorem eqA_trans {n : Nat} {a b c : Nat → Int} (h : eqA n a b = true) (h2 : eqA n b c = true) : eqA n a c = true := eqA_iff.2 fun i hi => (eqA_iff.1 h i hi).trans (eqA_iff.1 h2 i hi)
def lookP (tok : Nat → Int) : List ((Nat → Int) × List Rw) → List Rw
  | [] => []
  | (t, R) :: P => bif eqA 16 tok t then R else lookP tok P
theorem lookP_add (tok : Nat → Int) (r : Rw) : ∀ P : List ((Nat → Int) × List Rw), lookP tok (addP P r) = bif eqA 16 tok r.hd.item then lookP tok P ++ [r] else lookP tok P
  | [] => by
    show (bif eqA 16 tok r.hd.item then [r] else []) = _
    cases eqA 16 tok r.hd.item <;> rfl
  | (t, R) :: P => by
    have ih := lookP_add tok r P
    unfold addP
    cases h1 : eqA 16 r.hd.item t with
    | true =>
      show (bif eqA 16 tok t then R ++ [r] else lookP tok P) = bif eqA 16 tok r.hd.item then (bif eqA 16 tok t then R else lookP tok P) ++ [r] else (bif eqA 16 tok t then R else lookP tok P)
      cases h2 : eqA 16 tok t with
      | true => rw [eqA_trans h2 (eqA_symm h1)]; rfl
      | false =>
        cases h3 : eqA 16 tok r.hd.item with
        | true => rw [eqA_trans h3 h1] at h2; cases h2
        | false => rfl
    | false =>
      show (bif eqA 16 tok t then R else lookP tok (addP P r)) = bif eqA 16 tok r.hd.item then (bif eqA 16 tok t then R else lookP tok P) ++ [r] else (bif eqA 16 tok t then R else lookP tok P)
      rw [ih]
      cases h2 : eqA 16 tok t with
      | true =>
        cases h3 : eqA 16 tok r.hd.item with
        | true => rw [eqA_trans (eqA_symm h3) h2] at h1; cases h1
        | false => rfl
      | false => rfl
def ofRows (tok : Nat → Int) (C : List Rw) : List Rw := C.filter fun r => eqA 16 tok r.hd.item
theorem lookP_fold (tok : Nat → Int) : ∀ (C : List Rw) (P : List ((Nat → Int) × List Rw)), lookP tok (C.foldl addP P) = lookP tok P ++ ofRows tok C
  | [], P => (List.append_nil _).symm
  | r :: C, P => by
    show lookP tok (C.foldl addP (addP P r)) = _
    rw [lookP_fold tok C, lookP_add]
    unfold ofRows
    rw [List.filter_cons]
    cases eqA 16 tok r.hd.item with
    | true => simp
    | false => simp
theorem lookP_parts (tok : Nat → Int) (C : List Rw) : lookP tok (partsOf C) = ofRows tok C := lookP_fold tok C []
theorem grp_look (tok : Nat → Int) (N : Nat) : ∀ (G : List Gp), (∀ g ∈ G, GpOk g) → (∀ g ∈ G, g.rows.length ≤ N) →
    ∃ A B oe v, gh G = A ++ (oe ++ B) ∧ (∀ i, ∃ q, findM (eqA 16) tok (gm G) i = q ∧ (q = none ∧ v = znil ∨ ∃ k, q = some (k, v))) ∧ OwnL 79 130 v (lookP tok (pg G)).length ((lookP tok (pg G)).flatMap encR) oe ∧ (lookP tok (pg G)).length ≤ N
  | [], _, _ => ⟨[], [], [], znil, rfl, fun i => ⟨none, rfl, .inl ⟨rfl, rfl⟩⟩, OwnL.nil 79 130, Nat.zero_le _⟩
  | g :: G, hok, hN => by
    have e0 : ∀ i, findM (eqA 16) tok (gm (g :: G)) i = bif eqA 16 tok g.tok then some (i, g.v) else findM (eqA 16) tok (gm G) (i + 1) := fun _ => rfl
    have e1 : lookP tok (pg (g :: G)) = bif eqA 16 tok g.tok then g.rows else lookP tok (pg G) := rfl
    simp only [e0, e1]
    cases hq : eqA 16 tok g.tok with
    | true => exact ⟨[], gh G, g.oe, g.v, rfl, fun i => ⟨_, rfl, .inr ⟨i, rfl⟩⟩, hok g (by simp), hN g (by simp)⟩
    | false =>
      obtain ⟨A, B, oe, v, h1, h2, h3, h4⟩ := grp_look tok N G (fun x hx => hok x (List.mem_cons_of_mem _ hx)) (fun x hx => hN x (List.mem_cons_of_mem _ hx))
      exact ⟨g.oe ++ A, B, oe, v, by show g.oe ++ gh G = _; rw [h1, List.append_assoc], fun i => h2 (i + 1), h3, h4⟩
theorem grp_val {tok : Nat → Int} {G : List Gp} {v : Value} (h : ∀ i, ∃ q, findM (eqA 16) tok (gm G) i = q ∧ (q = none ∧ v = znil ∨ ∃ k, q = some (k, v))) : valM (eqA 16) tok (gm G) znil = v := by
  obtain ⟨q, h1, h2⟩ := h 0
  unfold valM
  rw [h1]
  rcases h2 with ⟨rfl, rfl⟩ | ⟨k, rfl⟩
  · rfl
  · rfl
def PartF (w : World) (l : Nat → Rw) (n : Nat) (v : Value) (W : World) (Hn : List Ent) : Prop := ∃ r G, v = .map (some r) ∧ Hn = gh G ∧ w.heap.size ≤ r ∧ r < W.heap.size ∧ W.heap[r]? = some (mob kv34 (gm G)) ∧ (∀ g ∈ G, GpOk g) ∧ pg G = partsOf (counted l n) ∧ (∀ g ∈ G, g.rows.length ≤ n)
theorem PartR.base {w : World} {l : Nat → Rw} {n : Nat} {e : Ending} {w' : World} (h : PartR w l n e w') : BaseR (PartF w l n) w e w' := by
  obtain ⟨r, W, G, h1, h2, h3, h4, h5, h6, h7, h8, h9⟩ := h
  exact ⟨_, W, gh G, h1, h2, ⟨r, G, rfl, rfl, h3, h4, h5, h6, h7, h8⟩, h9⟩
theorem cnt_mem (l : Nat → Rw) : ∀ (i : Nat) (r : Rw), r ∈ counted l i → ∃ j, j < i ∧ r = l j ∧ formedR r = true
  | 0, r, h => by cases h
  | i + 1, r, h => by
    rw [counted_succ] at h
    unfold cntStep at h
    cases hk : !formedR (l i) || seenR (counted l i) (l i) with
    | true =>
      rw [hk] at h
      obtain ⟨j, h1, h2⟩ := cnt_mem l i r h
      exact ⟨j, by omega, h2⟩
    | false =>
      rw [hk] at h
      rcases List.mem_append.1 h with h | h
      · obtain ⟨j, h1, h2⟩ := cnt_mem l i r h
        exact ⟨j, by omega, h2⟩
      · obtain rfl := List.mem_singleton.1 h
        rw [Bool.or_eq_false_iff] at hk
        exact ⟨i, by omega, rfl, by simpa using hk.1⟩
/-- the item of a token -/
def ofI (tok : Nat → Int) (l : Nat → Rw) (n : Nat) : It × Bool :=
  bif decide (((ofRows tok (counted l n)).length : Int) = 0) then (iz, false) else (madeI tok (ofRows tok (counted l n)), true)
theorem getL_rows (L : List Rw) : rowsL (fun i => L.getD i rz) L.length = L := by
  apply List.ext_getElem?
  intro i
  unfold rowsL
  rw [List.getElem?_map]
  by_cases hi : i < L.length
  · rw [List.getElem?_range hi, List.getElem?_eq_getElem hi]
    show some (L.getD i rz) = _
    rw [List.getD_eq_getElem?_getD, List.getElem?_eq_getElem hi]; rfl
  · rw [List.getElem?_eq_none (by rw [List.length_range]; omega), List.getElem?_eq_none (by omega)]; rfl
end Go.Proofs.Ytkdbjhlkahkobaa
/- walks, printed by a program of ours -/
namespace Go.Proofs.Ytkdbjhlkahkobaa
open Jal Go.RowKit
set_option maxRecDepth 100000
theorem seen_gt (S : List Rw) (r : Rw) : decide ((bif seenR S r then (1 : Int) else 0) > 0) = seenR S r := by cases seenR S r <;> rfl

set_option maxHeartbeats 2000000 in
theorem parted_calls (w : World) (p : Option Addr) (n c : Nat) (l : Nat → Rw) (hn : n ≤ 100) (hl : Sl w p n 130 (fun i => encR (l i))) (hx : ∀ i, i < n → RwIn w (l i)) (kx : ∀ i, i < n → RwOk (l i)) : Calls Try.prog 86 #[.slice p n c] w (PartR w l n) := by
  refine fn_calls (n := 50) Try.func86 rfl rfl (lb rfl) ?_
  refine cseq ?_
  refine creg ?_
  refine l1 (asg rfl) ?_
  refine lnil ?_
  refine nthen ?_
  refine cseq ?_
  refine creg ?_
  refine lmkm kv34 (fun w1 r1 hb1 hlo1 hl1 ho1 => ?_)
  refine l1 (asg rfl) ?_
  refine lnil ?_
  refine nthen ?_
  refine cseq ?_
  refine creg ?_
  refine lmkm kv140 (fun w2 r2 hb2 hlo2 hl2 ho2 => ?_)
  have hP0 : ParOk w r1 r2 l n ⟨0, [], [], w2⟩ := ⟨Nat.zero_le _, hb1.trans (hb2.mono hb1.size), hlo1, Nat.le_trans hb1.size hlo2, Nat.lt_of_lt_of_le hl1 hb2.size, hl2, by omega, (hb2.block r1 hl1).trans ho1, ho2, rfl, rfl, fun g hg => absurd hg (by simp), fun g hg => absurd hg (by simp)⟩
  refine l1 (asg rfl) ?_
  refine lnil ?_
  refine nthen ?_
  refine cseq ?_
  refine cseq ?_
  refine creg ?_
  refine l1 (mvs rfl) ?_
  refine l1 (lens sl74 rfl rfl) ?_
  refine l1 (mvi rfl) ?_
  refine lnil ?_
  refine nthen ?_
  refine cblock ?_
  refine cloopB (σ := ParS) (fun s => s.W) (fun s => [(3, .map (some r1)), (4, .map (some r2)), (10, .slice p n c), (11, .int .i64 (n : Int)), (12, .int .i64 (s.i : Int))]) (fun s => gh s.G) (fun s => ParOk w r1 r2 l n s) (fun s => n - s.i) ⟨0, [], [], w2⟩ rfl hP0 ⟨rfl, rfl, rfl, rfl, rfl, trivial⟩ (List.Sublist.refl _) ?_
  rintro ⟨i, G, S, W⟩ j hok
  show WC _ _ W (gh G) _ _ (over j [(3, .map (some r1)), (4, .map (some r2)), (10, .slice p n c), (11, .int .i64 (n : Int)), (12, .int .i64 (i : Int))])
  have hi : i ≤ n := hok.hi
  have hbw : Below w.heap.size w W := hok.below
  have hl1 : r1 < W.heap.size := hok.l1
  have hl2 : r2 < W.heap.size := hok.l2
  have ho1 : W.heap[r1]? = some (mob kv34 (gm G)) := hok.o1
  have ho2 : W.heap[r2]? = some (mob kv140 (cm S)) := hok.o2
  refine cseq ?_
  refine creg ?_
  refine l1 (lss rfl rfl) ?_
  refine lnil ?_
  refine nthen ?_
  refine cseq ?_
  refine cif rfl (fun h1 => ?_) (fun h1 => ?_)
  · have hlt : i < n := by (have := dt h1; omega)
    obtain ⟨b, o, hp, hbl, hm⟩ := hl.at hlt
    refine cskip ?_
    refine nthen ?_
    refine cseq ?_
    refine cblock ?_
    refine cseq ?_
    refine creg ?_
    refine l1 (isp sl74 hp rfl rfl (by omega) (by omega)) ?_
    refine l1 (ldam (vs := encR (l i)) Try.isAgg79 Try.sizeOf79 rfl rfl (fun w' hw => ((hm i hlt).kept hbw hbl).kept hw.below (Nat.lt_of_lt_of_le hbl hbw.size))) ?_
    refine lal (zs := encR rz) Try.zeroValue79 rfl (fun b1 => ?_)
    refine wl_perm (ins_perm 0 _ _) ?_
    refine lstw 0 rfl rfl rfl Try.sizeOf79 rfl rfl rfl ?_
    refine lnil ?_
    refine nthen ?_
    refine cseq ?_
    refine creg ?_
    refine l1 (fa fa79_0 rfl) ?_
    refine l1 (fa fa37_0 rfl) ?_
    refine l1 (ldc 0 Try.isAgg3 rfl rfl rfl) ?_
    refine l1 (fa fa79_0 rfl) ?_
    refine l1 (fa fa37_1 rfl) ?_
    refine l1 (ldc 0 Try.isAgg22 rfl rfl rfl) ?_
    refine l1 (bldk (zs := [.int .i64 (l i).hd.writer, .int .u64 (l i).hd.seq]) rfl (bk140 _ _)) ?_
    refine lal Try.zeroValue140 rfl (fun b2 => ?_)
    refine wl_perm (ins_perm 1 _ _) ?_
    refine lstw 1 rfl rfl rfl Try.sizeOf140 rfl rfl rfl ?_
    refine lnil ?_
    refine nthen ?_
    refine cseq ?_
    refine cseq ?_
    refine creg ?_
    refine l1 (ldw 0 Try.isAgg79 Try.sizeOf79 rfl rfl rfl) ?_
    refine l1 (cl hb54 rfl (mc rfl mn) (fun w hw => rowformed_calls (l i) w ((hx i hlt).keptS (H := []) ⟨hbw.trans (hw.below.mono hbw.size), fun e he => absurd he (by simp), .nil⟩) (kx i hlt))) ?_
    refine l1 (nt rfl) ?_
    refine l1 (mvb rfl) ?_
    refine l1g rfl (gwf rfl) (fun h => mv rfl) ?_
    refine l1g rfl (gwf rfl) (fun h => ldw 1 Try.isAgg140 Try.sizeOf140 rfl rfl rfl) ?_
    refine l1g rfl (gwf rfl) (fun h => lkpv K140 (k := keyR (l i)) (v := .int .i64 (bif seenR S (l i) then 1 else 0)) Try.underlying138 Try.zeroValue3 (gvt h) (gvt h) (fun w' hw => (hw.below.block r2 hl2).trans ho2) (cm_val S (l i))) ?_
    refine l1g rfl (gwf rfl) (fun h => gtr (gvt h) rfl) ?_
    refine l1 (pk_or rfl rfl rfl) ?_
    refine lnil ?_
    refine nthen ?_
    refine cif rfl (fun h2 => ?_) (fun h2 => ?_)
    · have hkeep : (!formedR (l i) || seenR S (l i)) = true := by (rw [seen_gt] at h2; exact h2)
      refine cexit ?_
      refine nthenE ?_
      refine nblkE ?_
      refine nthen ?_
      refine creg ?_
      first | refine l1 (addn rfl rfl (ri (by omega) (by omega))) ?_ | refine l1 (add rfl rfl) ?_
      refine l1 (mvi rfl) ?_
      refine lnil ?_
      exact nIB ⟨i + 1, G, S, W⟩ rfl (hok.skip hlt hkeep) (by show n - (i + 1) < n - i; omega) ⟨rfl, rfl, rfl, rfl, rfl, trivial⟩ (List.Sublist.cons _ (List.Sublist.cons _ (List.Sublist.refl _)))
    · have hkeep : (!formedR (l i) || seenR S (l i)) = false := by (rw [seen_gt] at h2; exact h2)
      have hns : seenR S (l i) = false := (Bool.or_eq_false_iff.1 hkeep).2
      refine cskip ?_
      refine nthen ?_
      refine cseq ?_
      refine cregHB (⟨b1, encR (l i), 79⟩ :: ⟨b2, [.int .i64 (l i).hd.writer, .int .u64 (l i).hd.seq], 140⟩ :: gh G) 7 mo rfl ?_
      refine hq1B 0 rfl (by kernel_rfl) (by kernel_rfl) (by kernel_rfl) (fun c a w h => h) (.inr ⟨_, rfl⟩) (fun w hw => ⟨_, hw⟩) (fun T => mv rfl) ?_
      refine hq1B 1 rfl (by kernel_rfl) (by kernel_rfl) (by kernel_rfl) (fun c a w h => h) (.inl ⟨_, rfl⟩) (fun w hw => ⟨_, hw⟩) (fun T => ldw 1 Try.isAgg140 Try.sizeOf140 rfl rfl rfl) ?_
      refine hem2 2 4 (by kernel_rfl) rfl rfl ?_ ?_
      · skip
        refine l1 (lkpv K140 (k := keyR (l i)) (v := .int .i64 0) Try.underlying138 Try.zeroValue3 rfl rfl (fun w' hw => (hw.below.block r2 hl2).trans ho2) (cm_val0 hns)) ?_
        refine hnil (fun w hw => ⟨_, hw⟩) ?_
        first | refine hq1B 3 rfl (by kernel_rfl) (by kernel_rfl) (by kernel_rfl) (fun c a w h => h) (.inl ⟨_, rfl⟩) (fun w hw => ⟨_, hw⟩) (fun T => addn rfl rfl (ri (by omega) (by omega))) ?_ | refine hq1B 3 rfl (by kernel_rfl) (by kernel_rfl) (by kernel_rfl) (fun c a w h => h) (.inl ⟨_, rfl⟩) (fun w hw => ⟨_, hw⟩) (fun T => add rfl rfl) ?_
        refine he 4 (by kernel_rfl) rfl ?_
        refine lme K140 (k := keyR (l i)) (z := .int .i64 0) Try.underlying138 Try.zeroValue3 rfl rfl hl2 ho2 ?_
        rw [(cm_put hns _).1, (cm_put hns (.int .i64 0)).2, cm_val0 hns]
        refine hnil (fun w hw => ⟨_, hw⟩) ?_
        refine hq1B 5 rfl (by kernel_rfl) (by kernel_rfl) (by kernel_rfl) (fun c a w h => h) (.inl ⟨_, rfl⟩) (fun w hw => ⟨_, hw⟩) (fun T => ext (vs := [.int .i64 0, goInt S.length]) rfl rfl) ?_
        refine he 6 (by kernel_rfl) rfl ?_
        refine lesm (v := one64) (i := S.length) (M := cm S ++ [(keyR (l i), .int .i64 0)]) rfl rfl rfl (by rw [setB_size]; exact hl2) (setB_same hl2) (by rw [List.length_append, cm_len]; simp) ?_
        rw [cm_set]
        refine hnil (fun w hw => ⟨_, hw⟩) ?_
        refine hend (by kernel_rfl) ?_
        rw [setB_setB]
        refine nthen ?_
        refine creg ?_
        refine l1 (mv rfl) ?_
        refine l1 (fa fa79_0 rfl) ?_
        refine l1 (fa fa37_6 rfl) ?_
        refine l1 (lda 0 Try.isAgg34 Try.sizeOf34 rfl rfl (encR_item _) rfl) ?_
        refine l1 (ldw 0 Try.isAgg79 Try.sizeOf79 rfl rfl rfl) ?_
        refine lbs Try.underlying74 rfl (bs74 (l i)) (fun b3 => ?_)
        refine wl_perm (ins_perm 2 _ _) ?_
        obtain ⟨A, B, oe, rows, v, jj, hA, hown, hrl, hfind, hnext⟩ := grp_step (l i) i G 0 hok.ok hok.len
        have hF := grp_find hfind
        refine lme K34 (k := (l i).hd.item) (M := gm G) (z := znil) Try.underlying117 Try.zeroValue74 rfl rfl (by rw [setB_size]; exact hl1) ((setB_other hok.ne).trans ho1) ?_
        rw [hF.1, hF.2.1, hF.2.2.1]
        refine l1 (ext (vs := [v, goInt jj]) rfl rfl) ?_
        refine lapp3 [_, _, _] A B oe el74 (by rw [hA]; rfl) rfl hown rfl (news := encR (l i)) rfl (fun w' hw => by have := hw.mem (i := 2) rfl 0; simpa using this) (encR_one _) (by decide) (by unfold maxLen; omega) (by omega) ?_
        intro g cap oe' hown'
        refine l1 (ext (vs := [v, goInt jj]) rfl rfl) ?_
        refine lesm (i := jj) (v := .slice (some ⟨g, 0, none⟩) (rows.length + 1) cap) rfl rfl rfl (by rw [setB_size, setB_size]; exact hl1) (setB_same (by rw [setB_size]; exact hl1)) hF.2.2.2 ?_
        obtain ⟨G', hG1, hG2, hG3, hG4, hG5⟩ := hnext _ _ (by rw [List.flatMap_append]; simpa using hown')
        rw [show setM (gput G (l i) jj) jj (.slice (some ⟨g, 0, none⟩) (rows.length + 1) cap) = gm G' from hG5.symm, setB_setB]
        refine lnil ?_
        refine nblkN ?_
        refine nthen ?_
        refine creg ?_
        first | refine l1 (addn rfl rfl (ri (by omega) (by omega))) ?_ | refine l1 (add rfl rfl) ?_
        refine l1 (mvi rfl) ?_
        refine lnil ?_
        exact nIB ⟨i + 1, G', S ++ [l i], _⟩ rfl (by (have hnx := hok.next hlt hkeep hG2 hG3 hG4); exact hnx) (by show n - (i + 1) < n - i; omega) ⟨rfl, rfl, rfl, rfl, rfl, trivial⟩ (by show (gh G').Sublist _; rw [hG1]; exact (List.Sublist.cons _ (List.Sublist.cons _ (List.Sublist.cons _ (List.Sublist.refl _)))))
      · skip
        refine lme K140 (k := keyR (l i)) (z := .int .i64 0) Try.underlying138 Try.zeroValue3 rfl rfl hl2 ho2 ?_
        rw [(cm_put hns _).1, (cm_put hns (.int .i64 0)).2, cm_val0 hns]
        refine hnil (fun w hw => ⟨_, hw⟩) ?_
        refine hq1B 5 rfl (by kernel_rfl) (by kernel_rfl) (by kernel_rfl) (fun c a w h => h) (.inl ⟨_, rfl⟩) (fun w hw => ⟨_, hw⟩) (fun T => ext (vs := [.int .i64 0, goInt S.length]) rfl rfl) ?_
        refine he 2 (by kernel_rfl) rfl ?_
        refine l1 (lkpv K140 (k := keyR (l i)) (v := .int .i64 0) Try.underlying138 Try.zeroValue3 rfl rfl (fun w' hw => (hw.below.block r2 (by rw [setB_size]; exact hl2)).trans (setB_same hl2)) (cm_val2 hns)) ?_
        refine hnil (fun w hw => ⟨_, hw⟩) ?_
        first | refine hq1B 3 rfl (by kernel_rfl) (by kernel_rfl) (by kernel_rfl) (fun c a w h => h) (.inl ⟨_, rfl⟩) (fun w hw => ⟨_, hw⟩) (fun T => addn rfl rfl (ri (by omega) (by omega))) ?_ | refine hq1B 3 rfl (by kernel_rfl) (by kernel_rfl) (by kernel_rfl) (fun c a w h => h) (.inl ⟨_, rfl⟩) (fun w hw => ⟨_, hw⟩) (fun T => add rfl rfl) ?_
        refine he 6 (by kernel_rfl) rfl ?_
        refine lesm (v := one64) (i := S.length) (M := cm S ++ [(keyR (l i), .int .i64 0)]) rfl rfl rfl (by rw [setB_size]; exact hl2) (setB_same hl2) (by rw [List.length_append, cm_len]; simp) ?_
        rw [cm_set]
        refine hnil (fun w hw => ⟨_, hw⟩) ?_
        refine hend (by kernel_rfl) ?_
        rw [setB_setB]
        refine nthen ?_
        refine creg ?_
        refine l1 (mv rfl) ?_
        refine l1 (fa fa79_0 rfl) ?_
        refine l1 (fa fa37_6 rfl) ?_
        refine l1 (lda 0 Try.isAgg34 Try.sizeOf34 rfl rfl (encR_item _) rfl) ?_
        refine l1 (ldw 0 Try.isAgg79 Try.sizeOf79 rfl rfl rfl) ?_
        refine lbs Try.underlying74 rfl (bs74 (l i)) (fun b3 => ?_)
        refine wl_perm (ins_perm 2 _ _) ?_
        obtain ⟨A, B, oe, rows, v, jj, hA, hown, hrl, hfind, hnext⟩ := grp_step (l i) i G 0 hok.ok hok.len
        have hF := grp_find hfind
        refine lme K34 (k := (l i).hd.item) (M := gm G) (z := znil) Try.underlying117 Try.zeroValue74 rfl rfl (by rw [setB_size]; exact hl1) ((setB_other hok.ne).trans ho1) ?_
        rw [hF.1, hF.2.1, hF.2.2.1]
        refine l1 (ext (vs := [v, goInt jj]) rfl rfl) ?_
        refine lapp3 [_, _, _] A B oe el74 (by rw [hA]; rfl) rfl hown rfl (news := encR (l i)) rfl (fun w' hw => by have := hw.mem (i := 2) rfl 0; simpa using this) (encR_one _) (by decide) (by unfold maxLen; omega) (by omega) ?_
        intro g cap oe' hown'
        refine l1 (ext (vs := [v, goInt jj]) rfl rfl) ?_
        refine lesm (i := jj) (v := .slice (some ⟨g, 0, none⟩) (rows.length + 1) cap) rfl rfl rfl (by rw [setB_size, setB_size]; exact hl1) (setB_same (by rw [setB_size]; exact hl1)) hF.2.2.2 ?_
        obtain ⟨G', hG1, hG2, hG3, hG4, hG5⟩ := hnext _ _ (by rw [List.flatMap_append]; simpa using hown')
        rw [show setM (gput G (l i) jj) jj (.slice (some ⟨g, 0, none⟩) (rows.length + 1) cap) = gm G' from hG5.symm, setB_setB]
        refine lnil ?_
        refine nblkN ?_
        refine nthen ?_
        refine creg ?_
        first | refine l1 (addn rfl rfl (ri (by omega) (by omega))) ?_ | refine l1 (add rfl rfl) ?_
        refine l1 (mvi rfl) ?_
        refine lnil ?_
        exact nIB ⟨i + 1, G', S ++ [l i], _⟩ rfl (by (have hnx := hok.next hlt hkeep hG2 hG3 hG4); exact hnx) (by show n - (i + 1) < n - i; omega) ⟨rfl, rfl, rfl, rfl, rfl, trivial⟩ (by show (gh G').Sublist _; rw [hG1]; exact (List.Sublist.cons _ (List.Sublist.cons _ (List.Sublist.cons _ (List.Sublist.refl _)))))
  · have hge : i = n := by (have := df h1; omega)
    refine cexit ?_
    refine nthenE ?_
    refine nIE ?_
    refine nblkE ?_
    refine nthen ?_
    refine cseq ?_
    refine creg ?_
    refine l1 (mv rfl) ?_
    refine l1 (asg rfl) ?_
    refine lnil ?_
    refine nthen ?_
    refine cret ?_
    exact finB (.map (some r1)) (rv1 rfl (rvt rfl)) (fun w' hw => ⟨r1, W, G, rfl, hbw, hok.lo1, hl1, ho1, hok.ok, by (have hg1 : pg G = partsOf S := hok.grp; have hg2 : S = counted l i := hok.cnt; rw [hg1, hg2, hge]), fun g hg => Nat.le_trans (hok.len g hg) hi, hw⟩)
end Go.Proofs.Ytkdbjhlkahkobaa
/- walks, printed by a program of ours -/
namespace Go.Proofs.Ytkdbjhlkahkobaa
open Jal Go.RowKit
set_option maxRecDepth 100000
theorem bk83z : ∀ w, (Instr.build 83 #[]).run Try.prog w = .ok (.agg (encI iz).toArray) w := fun w => by kernel_rfl

def PartF' (l : Nat → Rw) (n : Nat) (v : Value) (W : World) (Hn : List Ent) : Prop := ∃ r G, v = .map (some r) ∧ Hn = gh G ∧ r < W.heap.size ∧ W.heap[r]? = some (mob kv34 (gm G)) ∧ (∀ g ∈ G, GpOk g) ∧ pg G = partsOf (counted l n) ∧ (∀ g ∈ G, g.rows.length ≤ n)
theorem PartR.base' {w : World} {l : Nat → Rw} {n : Nat} {e : Ending} {w' : World} (h : PartR w l n e w') : BaseR (PartF' l n) w e w' := by
  obtain ⟨r, W, G, h1, h2, h3, h4, h5, h6, h7, h8, h9⟩ := h
  exact ⟨_, W, gh G, h1, h2, ⟨r, G, rfl, rfl, h4, h5, h6, h7, h8⟩, h9⟩
theorem of_none {tok : Nat → Int} {l : Nat → Rw} {n : Nat} (h : decide ((((ofRows tok (counted l n))).length : Int) = 0) = true) : ofI tok l n = (iz, false) := by unfold ofI; rw [h]; rfl
theorem of_some {tok : Nat → Int} {l : Nat → Rw} {n : Nat} (h : decide ((((ofRows tok (counted l n))).length : Int) = 0) = false) : ofI tok l n = (madeI tok (ofRows tok (counted l n)), true) := by unfold ofI; rw [h]; rfl
theorem ofRows_get {tok : Nat → Int} {l : Nat → Rw} {n i : Nat} (hi : i < ((ofRows tok (counted l n))).length) : ∃ j, j < n ∧ ((ofRows tok (counted l n))).getD i rz = l j := by
  have h1 : ((ofRows tok (counted l n))).getD i rz ∈ (ofRows tok (counted l n)) := by
    rw [List.getD_eq_getElem?_getD, List.getElem?_eq_getElem hi]; exact List.getElem_mem hi
  obtain ⟨j, h2, h3, _⟩ := cnt_mem l n _ (List.mem_filter.1 h1).1
  exact ⟨j, h2, h3⟩

set_option maxHeartbeats 2000000 in
theorem of_calls (w : World) (tok : Nat → Int) (p : Option Addr) (n c : Nat) (l : Nat → Rw) (hn : n ≤ 100) (hl : Sl w p n 130 (fun i => encR (l i))) (hx : ∀ i, i < n → RwIn w (l i)) (kx : ∀ i, i < n → RwOk (l i)) (fx : ∀ i, i < n → (l i).hd.tn ≤ 20 ∧ (l i).ch.gn ≤ 20) : Calls Try.prog 50 #[.slice p n c, .agg (arr .u8 16 tok).toArray] w (RetM (fun v Hn => ∃ I, v = .tuple #[.agg (encI I).toArray, .bool (ofI tok l n).2] ∧ coreI I = coreI (ofI tok l n).1 ∧ ItIn Hn I) w) := by
  refine fn_calls (n := 18) Try.func50 rfl rfl (lb rfl) ?_
  have hrx : ∀ i, i < (ofRows tok (counted l n)).length → RwIn w ((ofRows tok (counted l n)).getD i rz) := fun i hi => by obtain ⟨j, h1, h2⟩ := ofRows_get hi; rw [h2]; exact hx j h1
  have hrf : ∀ i, i < (ofRows tok (counted l n)).length → ((ofRows tok (counted l n)).getD i rz).hd.tn ≤ 20 ∧ ((ofRows tok (counted l n)).getD i rz).ch.gn ≤ 20 := fun i hi => by obtain ⟨j, h1, h2⟩ := ofRows_get hi; rw [h2]; exact fx j h1
  refine cseq ?_
  refine creg ?_
  refine lbxa rfl (fun b1 => ?_)
  refine lal (zs := encI iz) Try.zeroValue83 rfl (fun b2 => ?_)
  refine l1 (asgb rfl) ?_
  refine lnil ?_
  refine nthen ?_
  refine cseq ?_
  refine cregH (fun x : List Ent => ⟨b1, arr .u8 16 tok, 34⟩ :: ⟨b2, encI iz, 83⟩ :: x) 5 mo rfl ?_
  refine hq1 0 rfl (by kernel_rfl) (by kernel_rfl) (by kernel_rfl) (fun c a w h => h) (.inr ⟨_, rfl⟩) (fun w hw => ⟨[], hw⟩) (fun T => mvs rfl) ?_
  refine hq1 2 rfl (by kernel_rfl) (by kernel_rfl) (by kernel_rfl) (fun c a w h => h) (.inl ⟨_, rfl⟩) (fun w hw => ⟨[], hw⟩) (fun T => ldw 0 Try.isAgg34 Try.sizeOf34 rfl rfl rfl) ?_
  refine he 1 (by kernel_rfl) rfl ?_
  refine lclB hb86 rfl (mc rfl mn) (Φ := PartF' l n) (fun w' hw => (parted_calls w' p n c l hn (Sl.keptS hl hw) (fun i hi => (hx i hi).keptS hw) kx).mono (fun e w2 h => h.base')) ?_
  rintro v8 W H8 ⟨r, G, rfl, rfl, hlr, hor, hok, hpg, hlen⟩ hU
  obtain ⟨A, B, oe, v, hA, hfind, hown, hrl⟩ := grp_look tok n G hok hlen
  refine hnil (fun w hw => ⟨_, hU w hw⟩) ?_
  refine he 3 (by kernel_rfl) rfl ?_
  refine l1 (lkpv K34 (k := tok) (M := gm G) (z := znil) Try.underlying117 Try.zeroValue74 rfl rfl (fun w' hw => (hw.below.block r hlr).trans hor) (grp_val hfind)) ?_
  refine hnil (fun w hw => ⟨_, hU w hw⟩) ?_
  refine he 4 (by kernel_rfl) rfl ?_
  refine l1 (asg rfl) ?_
  refine hnil (fun w hw => ⟨_, hU w hw⟩) ?_
  refine hend (by kernel_rfl) ?_
  refine nq_imp hU ?_
  have hrows : lookP tok (pg G) = (ofRows tok (counted l n)) := by rw [hpg, lookP_parts]
  rw [hrows] at hown hrl
  obtain ⟨p6, c6, rfl⟩ := hown.form
  refine nthen ?_
  refine cseq ?_
  refine cseq ?_
  refine creg ?_
  refine l1 (mvs rfl) ?_
  refine l1 (lens sl74 rfl rfl) ?_
  refine l1 (eql rfl rfl) ?_
  refine lnil ?_
  refine nthen ?_
  refine cif rfl (fun h1 => ?_) (fun h1 => ?_)
  · have hof := of_none (tok := tok) (l := l) (n := n) h1
    refine cseq ?_
    refine creg ?_
    refine l1 (bld0 bk83z) ?_
    refine lstw 1 rfl rfl rfl Try.sizeOf83 rfl rfl rfl ?_
    refine l1 (asgb rfl) ?_
    refine lnil ?_
    refine nthen ?_
    refine cret ?_
    refine nthenR ?_
    exact finM (.tuple #[.agg (encI iz).toArray, .bool false]) [] (rv2 rfl (rvc 1 Try.isAgg83 Try.sizeOf83 rfl rfl rfl rfl) (rvt rfl)) ⟨[], List.Perm.refl _, List.nil_sublist _⟩ ⟨iz, by rw [hof], by rw [hof], ⟨.inl rfl, .inl rfl⟩⟩
  · have hof := of_some (tok := tok) (l := l) (n := n) h1
    have hsub : oe.Sublist (gh G) := by rw [hA]; exact (List.sublist_append_left _ _).trans (List.sublist_append_right _ _)
    refine cskip ?_
    refine nthen ?_
    refine cseq ?_
    refine creg ?_
    refine l1 (ldw 0 Try.isAgg34 Try.sizeOf34 rfl rfl rfl) ?_
    refine l1 (mvs rfl) ?_
    refine lclm hb87 rfl (mc rfl (mc rfl mn)) (fun w' hw => made_item_calls w' tok p6 (ofRows tok (counted l n)).length c6 (fun i => (ofRows tok (counted l n)).getD i rz) (by omega) (SlIn.sl (hown.slInL (fun a => rfl) (fun i hi => ⟨_, List.getElem?_eq_getElem hi, by rw [List.getD_eq_getElem?_getD, List.getElem?_eq_getElem hi]; rfl⟩)) (hw.sub (hsub.trans (List.Sublist.cons _ (List.Sublist.cons _ (List.Sublist.refl _)))))) (fun i hi => (hrx i hi).keptS hw) hrf) ?_
    rintro v17 Hn ⟨I, rfl, hI, hIn⟩
    rw [getL_rows] at hI
    refine lstw 1 rfl rfl rfl Try.sizeOf83 rfl rfl rfl ?_
    refine l1 (asgb rfl) ?_
    refine lnil ?_
    refine nthen ?_
    refine cret ?_
    exact finM (.tuple #[.agg (encI I).toArray, .bool true]) Hn (rv2 rfl (rvc 1 Try.isAgg83 Try.sizeOf83 rfl rfl rfl rfl) (rvt rfl)) ⟨_, List.Perm.refl _, (List.Sublist.cons _ (List.Sublist.cons _ (List.sublist_append_right _ _)))⟩ ⟨I, by rw [hof], by rw [hof]; exact hI, hIn⟩
end Go.Proofs.Ytkdbjhlkahkobaa
/- walks, printed by a program of ours -/
namespace Go.Proofs.Ytkdbjhlkahkobaa
open Jal Go.RowKit
set_option maxRecDepth 100000
theorem mem_part {w : World} {b o : Nat} {cs : List Value} (i m : Nat) (h : Mem w ⟨b, o, none⟩ cs) : Mem w ⟨b, o + i, none⟩ ((cs.drop i).take m) := fun j v hv => by
  have h1 : cs[i + j]? = some v := by
    rw [List.getElem?_take] at hv
    split at hv
    · rwa [List.getElem?_drop] at hv
    · cases hv
  have h2 := h (i + j) v h1
  rw [Addr.add_off] at h2 ⊢
  rw [Nat.add_assoc]; exact h2
def bigR (r : Rw) : Bool := ((decide ((r.hd.tn : Int) > 20) || decide ((r.ch.gn : Int) > 20)) || decide ((r.ch.name.size : Int) > 100)) || decide ((r.ch.value.size : Int) > 700)
def fewRow (r : Rw) : Bool := !bigR r && (List.range r.ch.gn).all fun j => !decide (((r.ch.tag j).size : Int) > 100)
def fewRs (l : Nat → Rw) (n : Nat) : Bool := (List.range (min n 100)).all fun i => fewRow (l i)
def fewR (l : Nat → Rw) (n : Nat) (k : Int) : Bool := fewRs l n && decide ((n : Int) ≤ k)
theorem fewRow_big {r : Rw} (h : bigR r = true) : fewRow r = false := by unfold fewRow; rw [h]; rfl
theorem fewRow_tag {r : Rw} {j : Nat} (hj : j < r.ch.gn) (h : decide (((r.ch.tag j).size : Int) > 100) = true) : fewRow r = false := by
  unfold fewRow
  have : ((List.range r.ch.gn).all fun j => !decide (((r.ch.tag j).size : Int) > 100)) = false := by
    rw [List.all_eq_false]
    exact ⟨j, List.mem_range.2 hj, by rw [h]; simp⟩
  rw [this, Bool.and_false]
theorem fewRow_yes {r : Rw} (h : bigR r = false) (ht : ∀ j, j < r.ch.gn → ¬ ((r.ch.tag j).size : Int) > 100) : fewRow r = true := by
  unfold fewRow
  rw [h]
  exact List.all_eq_true.2 fun j hj => by
    have := ht j (List.mem_range.1 hj)
    simp; omega
theorem fewRs_no {l : Nat → Rw} {n i : Nat} (hi : i < n) (h1 : i < 100) (h : fewRow (l i) = false) : fewRs l n = false := by
  unfold fewRs
  rw [List.all_eq_false]
  exact ⟨i, List.mem_range.2 (by omega), by rw [h]; simp⟩
theorem fewRs_yes {l : Nat → Rw} {n : Nat} (h : ∀ i, i < n → i < 100 → fewRow (l i) = true) : fewRs l n = true :=
  List.all_eq_true.2 fun i hi => by
    have := List.mem_range.1 hi
    exact h i (by omega) (by omega)

set_option maxHeartbeats 1000000 in
theorem fewrows_calls (w : World) (p : Option Addr) (n c : Nat) (l : Nat → Rw) (k : Int) (hn : (n : Int) ≤ 9223372036854775807) (hl : Sl w p n 130 (fun i => encR (l i))) (hx : ∀ i, i < n → RwIn w (l i)) (kx : ∀ i, i < n → RwOk (l i)) : Calls Try.prog 48 #[.slice p n c, .int .i64 k] w (Ret (.bool (fewR l n k)) w) := by
  refine fn_calls (n := 67) Try.func48 rfl rfl (lb rfl) ?_
  refine cseq ?_
  refine creg ?_
  refine l1 (asgb rfl) ?_
  refine lnil ?_
  refine nthen ?_
  refine cseq ?_
  refine cseq ?_
  refine creg ?_
  refine l1 (asgi rfl) ?_
  refine lnil ?_
  refine nthen ?_
  refine cblock ?_
  refine cloopI (σ := Nat) (fun s => [(0, .slice p n c), (1, .int .i64 k), (5, .int .i64 (s : Int))]) (fun s => []) (fun s => s ≤ n ∧ s ≤ 100 ∧ ∀ j, j < s → fewRow (l j) = true) (fun s => n + 1 - s) 0 ⟨Nat.zero_le _, by omega, fun j hj => by omega⟩ ⟨rfl, rfl, rfl, trivial⟩ (List.Sublist.refl _) ?_
  rintro i j hI
  show WC _ _ _ ([]) _ _ (over j [(0, .slice p n c), (1, .int .i64 k), (5, .int .i64 (i : Int))])
  replace hI : i ≤ n ∧ i ≤ 100 ∧ ∀ j, j < i → fewRow (l j) = true := hI
  refine cseq ?_
  refine cseq ?_
  refine creg ?_
  refine l1 (mvi rfl) ?_
  refine l1 (mvs rfl) ?_
  refine l1 (lens sl74 rfl rfl) ?_
  refine l1 (lss rfl rfl) ?_
  refine l1 (mvb rfl) ?_
  refine l1g rfl (gwt rfl) (fun h => mvi rfl) ?_
  refine l1g rfl (gwt rfl) (fun h => lss (gvt h) rfl) ?_
  refine l1 (pk_and rfl rfl rfl) ?_
  refine lnil ?_
  refine nthen ?_
  refine cif rfl (fun h1 => ?_) (fun h1 => ?_)
  · have hlt : i < n ∧ i < 100 := by (simp at h1; omega)
    obtain ⟨b, o, hp, hbl, hm⟩ := hl.at hlt.1
    have hgn := (kx i hlt.1).c.n
    refine cskip ?_
    refine nthen ?_
    refine cseq ?_
    refine cblock ?_
    refine cseq ?_
    refine creg ?_
    refine l1 (mvs rfl) ?_
    refine l1 (mvi rfl) ?_
    refine l1 (isp sl74 hp rfl rfl (by omega) (by omega)) ?_
    refine l1 (fa fa79_2 rfl) ?_
    refine l1 (ldam (vs := encCh (l i).ch) Try.isAgg77 Try.sizeOf77 rfl rfl (fun w' hw => mem_part 126 4 ((hm i hlt.1).kept hw.below hbl))) ?_
    refine lal (zs := encCh chz) Try.zeroValue77 rfl (fun b1 => ?_)
    refine lstw 0 rfl rfl rfl Try.sizeOf77 rfl rfl rfl ?_
    refine lnil ?_
    refine nthen ?_
    refine cseq ?_
    refine cseq ?_
    refine creg ?_
    refine l1 (mvs rfl) ?_
    refine l1 (mvi rfl) ?_
    refine l1 (isp sl74 hp rfl rfl (by omega) (by omega)) ?_
    refine l1 (fa fa79_0 rfl) ?_
    refine l1 (fa fa37_7 rfl) ?_
    refine l1 (ldm (v := .slice (l i).hd.tp (l i).hd.tn (l i).hd.tc) Try.isAgg35 rfl (fun w' hw => ((hm i hlt.1).kept hw.below hbl).at (i := 53) rfl)) ?_
    refine l1 (lens sl35 rfl rfl) ?_
    refine l1 (gtr rfl rfl) ?_
    refine l1 (mvb rfl) ?_
    refine l1g rfl (gwf rfl) (fun h => fa fa77_2 rfl) ?_
    refine l1g rfl (gwf rfl) (fun h => ldc 0 Try.isAgg75 rfl (gvt h) rfl) ?_
    refine l1g rfl (gwf rfl) (fun h => lens sl75 rfl (gvt h)) ?_
    refine l1g rfl (gwf rfl) (fun h => gtr (gvt h) rfl) ?_
    refine l1 (pk_or rfl rfl rfl) ?_
    refine l1 (mvb rfl) ?_
    refine l1g rfl (gwf rfl) (fun h => fa fa77_1 rfl) ?_
    refine l1g rfl (gwf rfl) (fun h => ldc 0 Try.isAgg9 rfl (gvt h) rfl) ?_
    refine l1g rfl (gwf rfl) (fun h => lenstr Try.underlying9 rfl (gvt h)) ?_
    refine l1g rfl (gwf rfl) (fun h => gtr (gvt h) rfl) ?_
    refine l1 (pk_or rfl rfl rfl) ?_
    refine l1 (mvb rfl) ?_
    refine l1g rfl (gwf rfl) (fun h => fa fa77_3 rfl) ?_
    refine l1g rfl (gwf rfl) (fun h => ldc 0 Try.isAgg9 rfl (gvt h) rfl) ?_
    refine l1g rfl (gwf rfl) (fun h => lenstr Try.underlying9 rfl (gvt h)) ?_
    refine l1g rfl (gwf rfl) (fun h => gtr (gvt h) rfl) ?_
    refine l1 (pk_or rfl rfl rfl) ?_
    refine lnil ?_
    refine nthen ?_
    refine cif rfl (fun h2 => ?_) (fun h2 => ?_)
    · change bigR (l i) = _ at h2
      refine cseq ?_
      refine creg ?_
      refine l1 (asgb rfl) ?_
      refine lnil ?_
      refine nthen ?_
      refine cret ?_
      refine nthenR ?_
      refine nblkR ?_
      refine nthenR ?_
      refine nIR ?_
      refine nblkR ?_
      refine nthenR ?_
      exact fin1b rfl rfl (by rw [fewR, fewRs_no (by omega) (by omega) (fewRow_big h2)]; rfl)
    · change bigR (l i) = _ at h2
      refine cskip ?_
      refine nthen ?_
      refine cseq ?_
      refine creg ?_
      refine l1 (asgi rfl) ?_
      refine lnil ?_
      refine nthen ?_
      refine cblock ?_
      refine cloopI (σ := Nat) (fun s => [(0, .slice p n c), (1, .int .i64 k), (5, .int .i64 (i : Int)), (6, .pointer (some ⟨b1, 0, none⟩)), (7, .int .i64 (s : Int))]) (fun s => [⟨b1, encCh (l i).ch, 77⟩]) (fun s => s ≤ (l i).ch.gn ∧ ∀ k, k < s → ¬ (((l i).ch.tag k).size : Int) > 100) (fun s => (l i).ch.gn - s) 0 ⟨Nat.zero_le _, fun j hj => by omega⟩ ⟨rfl, rfl, rfl, rfl, rfl, trivial⟩ (List.Sublist.refl _) ?_
      rintro q j hJ
      show WC _ _ _ ([⟨b1, encCh (l i).ch, 77⟩]) _ _ (over j [(0, .slice p n c), (1, .int .i64 k), (5, .int .i64 (i : Int)), (6, .pointer (some ⟨b1, 0, none⟩)), (7, .int .i64 (q : Int))])
      replace hJ : q ≤ (l i).ch.gn ∧ ∀ k, k < q → ¬ (((l i).ch.tag k).size : Int) > 100 := hJ
      refine cseq ?_
      refine cseq ?_
      refine creg ?_
      refine l1 (mvi rfl) ?_
      refine l1 (fa fa77_2 rfl) ?_
      refine l1 (ldc 0 Try.isAgg75 rfl rfl rfl) ?_
      refine l1 (lens sl75 rfl rfl) ?_
      refine l1 (lss rfl rfl) ?_
      refine lnil ?_
      refine nthen ?_
      refine cif rfl (fun h3 => ?_) (fun h3 => ?_)
      · have hlq : q < (l i).ch.gn := by (have := dt h3; omega)
        obtain ⟨b2, o2, hp2, hbl2, hm2⟩ := (hx i hlt.1).c.at hlq
        refine cskip ?_
        refine nthen ?_
        refine cseq ?_
        refine cblock ?_
        refine cseq ?_
        refine creg ?_
        refine l1 (fa fa77_2 rfl) ?_
        refine l1 (ldc 0 Try.isAgg75 rfl rfl rfl) ?_
        refine l1 (mvi rfl) ?_
        refine l1 (isp sl75 hp2 rfl rfl (by omega) (by omega)) ?_
        refine l1 (ldm (v := .string ((l i).ch.tag q)) Try.isAgg9 rfl (fun w' hw => ((hm2 q hlq).kept hw.below hbl2).c0)) ?_
        refine l1 (lenstr Try.underlying9 rfl rfl) ?_
        refine l1 (gtr rfl rfl) ?_
        refine lnil ?_
        refine nthen ?_
        refine cif rfl (fun h4 => ?_) (fun h4 => ?_)
        · skip
          refine cseq ?_
          refine creg ?_
          refine l1 (asgb rfl) ?_
          refine lnil ?_
          refine nthen ?_
          refine cret ?_
          refine nblkR ?_
          refine nthenR ?_
          refine nIR ?_
          refine nblkR ?_
          refine nblkR ?_
          refine nthenR ?_
          refine nIR ?_
          refine nblkR ?_
          refine nthenR ?_
          exact fin1b rfl rfl (by rw [fewR, fewRs_no (i := i) (by omega) (by omega) (fewRow_tag hlq h4)]; rfl)
        · skip
          refine cskip ?_
          refine nblkN ?_
          refine nthen ?_
          refine creg ?_
          refine l1 (mvi rfl) ?_
          first | refine l1 (addn rfl rfl (ri (by omega) (by omega))) ?_ | refine l1 (add rfl rfl) ?_
          refine l1 (asgi rfl) ?_
          refine lnil ?_
          exact nI (q + 1) ⟨by omega, fun k hk => (Nat.lt_succ_iff_lt_or_eq.1 hk).elim (fun h => hJ.2 k h) (fun h => by subst h; exact df h4)⟩ (by show (l i).ch.gn - (q + 1) < (l i).ch.gn - q; omega) ⟨rfl, rfl, rfl, rfl, rfl, trivial⟩ (List.Sublist.refl _)
      · skip
        refine cexit ?_
        refine nthenE ?_
        refine nIE ?_
        refine nblkE ?_
        refine nblkN ?_
        refine nthen ?_
        refine creg ?_
        refine l1 (mvi rfl) ?_
        first | refine l1 (addn rfl rfl (ri (by omega) (by omega))) ?_ | refine l1 (add rfl rfl) ?_
        refine l1 (asgi rfl) ?_
        refine lnil ?_
        exact nI (i + 1) ⟨by omega, by omega, fun j hj => (Nat.lt_succ_iff_lt_or_eq.1 hj).elim (fun h => hI.2.2 j h) (fun h => by subst h; exact fewRow_yes h2 (fun k hk => hJ.2 k (by have := df h3; omega)))⟩ (by show n + 1 - (i + 1) < n + 1 - i; omega) ⟨rfl, rfl, rfl, trivial⟩ (List.Sublist.cons _ (List.Sublist.refl _))
  · have hge : ¬ (i < n ∧ i < 100) := by (intro hc; simp at h1; omega)
    refine cexit ?_
    refine nthenE ?_
    refine nIE ?_
    refine nblkE ?_
    refine nthen ?_
    refine cseq ?_
    refine creg ?_
    refine l1 (mvs rfl) ?_
    refine l1 (lens sl74 rfl rfl) ?_
    refine l1 (mvi rfl) ?_
    refine l1 (leq rfl rfl) ?_
    refine l1 (asgb rfl) ?_
    refine lnil ?_
    refine nthen ?_
    refine cret ?_
    exact fin1b rfl rfl (by rw [fewR, fewRs_yes (fun j hj h100 => hI.2.2 j (by omega))]; rfl)
end Go.Proofs.Ytkdbjhlkahkobaa
/- numbers and headers as bytes -/
namespace Jal
open Go Go.RowKit
section
variable {P : Program} {C : World → Prop} {ρ : Operand → Value} {d : Option Tmp} {ty : TypeId} {pos : String} {af : Array Edge} {g : Option (Nat × Bool)}
theorem quon {t t' : TypeId} {x y : Operand} {k : IntKind} {a b r : Int} (hx : ρ x = .int k a) (hy : ρ y = .int k b) (hb : b ≠ 0) (hr : k.wrap (Int.tdiv a b) = r) : Qu P C ρ ⟨d, .binOp .quo t x y t', ty, pos, af, g⟩ (.int k r) :=
  qu_of_run fun w _ => by subst hr; simp [execOp, hx, hy, eqGuard, binOp, Op.intDiv, hb]
theorem ru8 {x : Int} (h : 0 ≤ x) (h' : x ≤ 255) : IntKind.u8.wrap x = x := by
  simp [IntKind.wrap, IntKind.signed, IntKind.bits]; omega
end
end Jal
namespace Go.Proofs.Ytkdbjhlkahkobaa
open Jal Go.RowKit
set_option maxRecDepth 100000
def numB (x : Nat) : List Int := if _h : 0 < x / 128 then ((x % 128 + 128 : Nat) : Int) :: numB (x / 128) else [(x : Int)]
termination_by x
decreasing_by omega
theorem numB_more {x : Nat} (h : 0 < x / 128) : numB x = ((x % 128 + 128 : Nat) : Int) :: numB (x / 128) := by rw [numB, dif_pos h]
theorem numB_last {x : Nat} (h : ¬ 0 < x / 128) : numB x = [(x : Int)] := by rw [numB, dif_neg h]
def bv (l : List Int) : List Value := l.map (.int .u8)
theorem el56 : ElT Try.prog 56 5 1 1 := by
  obtain ⟨i, h1, h2, h3, h4⟩ := info_parts (P := Try.prog) (e := 5) (z := .int .u8 0) (size := 1) (bytes := 1) (by kernel_rfl)
  exact ⟨i, _, Try.underlying56, h1, h2, h3, h4, rfl, by decide⟩
theorem bs56 (a : Int) : ∀ w : World, (Instr.buildSlice 56 1 #[(0, .int .u8 a)]).run Try.prog w = .ok (.slice (some ⟨w.heap.size, 0, none⟩) 1 1) (w.alloc (.cells [.int .u8 a].toArray 5)) := fun w => by kernel_rfl
theorem quo128 (y : Nat) (h : y < 18446744073709551616) : IntKind.u64.wrap (Int.tdiv (y : Int) 128) = ((y / 128 : Nat) : Int) := by
  rw [show Int.tdiv (y : Int) 128 = ((y / 128 : Nat) : Int) from (Int.ofNat_tdiv y 128).symm]
  exact ru (by omega) (by omega)
theorem len64 {y n x : Nat} (h : y * 2 ^ n ≤ x) (hy : 0 < y) (hx : x < 18446744073709551616) : n < 64 := by
  rcases Nat.lt_or_ge n 64 with h1 | h1
  · exact h1
  · have h2 : 2 ^ 64 ≤ 2 ^ n := Nat.pow_le_pow_right (by decide) h1
    have h3 : 1 * 2 ^ n ≤ y * 2 ^ n := Nat.mul_le_mul_right _ hy
    omega
theorem half {y n x : Nat} (h : y * 2 ^ n ≤ x) : y / 128 * 2 ^ (n + 1) ≤ x := by
  have h1 : y / 128 * 2 ≤ y := by omega
  have h2 : y / 128 * 2 * 2 ^ n ≤ y * 2 ^ n := Nat.mul_le_mul_right _ h1
  rw [Nat.pow_succ, Nat.mul_comm (2 ^ n) 2, ← Nat.mul_assoc]
  omega
theorem numB_len : ∀ (k x : Nat), x < 2 ^ k → (numB x).length ≤ k + 1
  | 0, x, h => by
    have h0 : x = 0 := by simpa using h
    subst h0
    rw [numB_last (by decide)]; exact Nat.le_refl _
  | k + 1, x, h => by
    by_cases hp : 0 < x / 128
    · rw [numB_more hp]
      have h1 : x / 128 < 2 ^ k := by rw [Nat.pow_succ] at h; omega
      have := numB_len k _ h1
      simp only [List.length_cons]; omega
    · rw [numB_last hp]; simp
theorem numB_pos (x : Nat) : 0 < (numB x).length := by
  by_cases hp : 0 < x / 128
  · rw [numB_more hp]; simp
  · rw [numB_last hp]; simp
def u64N (a : Int) : Nat := (IntKind.u64.wrap a).toNat
theorem u64N_eq (a : Int) : ((u64N a : Nat) : Int) = IntKind.u64.wrap a ∧ u64N a < 18446744073709551616 := by
  unfold u64N
  have h1 : 0 ≤ IntKind.u64.wrap a ∧ IntKind.u64.wrap a < 18446744073709551616 := by
    simp [IntKind.wrap, IntKind.signed, IntKind.bits]; omega
  omega
def aL (n : Nat) (f : Nat → Int) : List Int := (List.range n).map f
theorem bv_aL (n : Nat) (f : Nat → Int) : bv (aL n f) = arr .u8 n f := by
  unfold bv aL arr
  rw [List.map_map]; rfl
theorem bv_one (l : List Int) : ∀ u ∈ bv l, u.oneCell' = true := by
  intro u hu
  obtain ⟨a, _, rfl⟩ := List.mem_map.1 hu; rfl
theorem bv_len (l : List Int) : (bv l).length = l.length := by unfold bv; rw [List.length_map]
theorem bv_app (a b : List Int) : bv (a ++ b) = bv a ++ bv b := by unfold bv; rw [List.map_append]
/-- what a row of our own holds -/
theorem own_mem {w0 w : World} {H oe : List Ent} {p : Option Addr} {m c : Nat} {xs : List Value} (h : OwnL 5 1 (.slice p m c) m xs oe) (hw : Sat w0 H w) (hs : oe.Sublist H) (hm : 0 < m) : ∃ ad, p = some ad ∧ Mem w ad xs := by
  rcases h.2 with ⟨_, h0, _⟩ | ⟨g, cap, cur, h1, rfl, _, _, _, ht⟩
  · omega
  · cases h1
    refine ⟨_, rfl, ?_⟩
    have h2 := (hw.sub hs).mem (i := 0) (e := ⟨g, cur, 5⟩) rfl 0
    intro j v hv
    refine h2 j v ?_
    rw [← ht, List.getElem?_take] at hv
    split at hv
    · simpa using hv
    · cases hv
def flatI (n : Nat) (f : Nat → List Int) : List Int := (List.range n).flatMap f
def coreBy (h : Hd) : List Int := numB (u64N h.writer) ++ numB (u64N h.seq) ++ aL 32 h.prev ++ numB (u64N h.epoch) ++ [bif h.control then 1 else 0] ++ numB (u64N h.time) ++ aL 16 h.item ++ numB h.tn ++ flatI h.tn (fun i => aL 16 (h.tok i)) ++
  flatI 6 (fun i => numB (u64N (h.knows i))) ++ aL 32 h.sum ++ numB (u64N h.size)
/-- the bytes of a header: none of one that is not formed -/
def hdBy (h : Hd) : List Int := bif !rformedH h then [] else coreBy h ++ aL 32 h.code
end Go.Proofs.Ytkdbjhlkahkobaa
/- walks, printed by a program of ours -/
namespace Go.Proofs.Ytkdbjhlkahkobaa
open Jal Go.RowKit
set_option maxRecDepth 100000
theorem num_calls (x : Nat) (hx : x < 18446744073709551616) (w : World) : Calls Try.prog 137 #[.int .u64 (x : Int)] w (RetM (fun v Hn => OwnL 5 1 v (numB x).length (bv (numB x)) Hn) w) := by
  refine fn_calls (n := 21) Try.func137 rfl rfl (lb rfl) ?_
  refine cseq ?_
  refine creg ?_
  refine l1 (asg rfl) ?_
  refine lnil ?_
  refine nthen ?_
  refine cseq ?_
  refine creg ?_
  refine l1 (asg rfl) ?_
  refine lnil ?_
  refine nthen ?_
  refine cseq ?_
  refine cblock ?_
  refine cloopI (σ := Nat × List Int × Value × List Ent) (fun s => [(0, .int .u64 (s.1 : Int)), (3, s.2.2.1)]) (fun s => ([] ++ (s.2.2.2))) (fun s => numB x = s.2.1 ++ numB s.1 ∧ OwnL 5 1 s.2.2.1 s.2.1.length (bv s.2.1) s.2.2.2 ∧ s.1 * 2 ^ s.2.1.length ≤ x ∧ (s.2.1 = [] ∨ 0 < s.1)) (fun s => s.1) (x, [], .slice none 0 0, []) ⟨rfl, OwnL.nil 5 1, by simp, .inl rfl⟩ ⟨rfl, rfl, trivial⟩ (List.Sublist.refl _) ?_
  rintro ⟨y, acc, v3, oe⟩ j hI; replace hI : numB x = acc ++ numB y ∧ OwnL 5 1 v3 acc.length (bv acc) oe ∧ y * 2 ^ acc.length ≤ x ∧ (acc = [] ∨ 0 < y) := hI; obtain ⟨p3, c3, rfl⟩ := hI.2.1.form
  show WC _ _ _ ((oe)) _ _ (over j [(0, .int .u64 (y : Int)), (3, .slice p3 acc.length c3)])
  replace hI : numB x = acc ++ numB y ∧ OwnL 5 1 (.slice p3 acc.length c3) acc.length (bv acc) oe ∧ y * 2 ^ acc.length ≤ x ∧ (acc = [] ∨ 0 < y) := hI; have hown := hI.2.1; have hyx : y ≤ x := Nat.le_trans (Nat.le_mul_of_pos_right _ (Nat.two_pow_pos _)) hI.2.2.1
  refine cseq ?_
  refine cseq ?_
  refine creg ?_
  refine l1 (mvi rfl) ?_
  refine l1 (quon rfl rfl (by decide) (quo128 y (by omega))) ?_
  refine l1 (gtr rfl rfl) ?_
  refine lnil ?_
  refine nthen ?_
  refine cif rfl (fun h1 => ?_) (fun h1 => ?_)
  · have hpos : 0 < y / 128 := by (have := dt h1; omega)
    have h64 := len64 hI.2.2.1 (by omega) hx
    refine cskip ?_
    refine nthen ?_
    refine cblock ?_
    refine cseq ?_
    refine creg ?_
    refine l1 (mvs rfl) ?_
    refine l1 (mvi rfl) ?_
    refine l1 (remn (r := ((y % 128 : Nat) : Int)) rfl rfl (by decide) (Int.ofNat_tmod _ _).symm) ?_
    refine l1 (addn rfl rfl (ru (by omega) (by omega))) ?_
    refine l1 (cvn (a := ((y % 128 + 128 : Nat) : Int)) ⟨_, Try.underlying22⟩ Try.underlying5 rfl (ru8 (by omega) (by omega))) ?_
    refine lbs Try.underlying56 rfl (bs56 _) (fun b1 => ?_)
    refine wl_perm (ins_perm 0 _ _) ?_
    refine lapp [_] [] oe el56 (by rw [List.append_nil]; rfl) rfl hown rfl (news := [.int .u8 ((y % 128 + 128 : Nat) : Int)]) rfl (fun w' hw => by have := hw.mem (i := 0) rfl 0; simpa using this) (one1 rfl) (by decide) (by unfold maxLen; omega) (by omega) ?_
    intro g cap oe' hown'
    rw [List.append_nil]
    refine l1 (asg rfl) ?_
    refine lnil ?_
    refine nthen ?_
    refine creg ?_
    refine l1 (mvi rfl) ?_
    refine l1 (quon rfl rfl (by decide) (quo128 y (by omega))) ?_
    refine l1 (asgi rfl) ?_
    refine lnil ?_
    refine nblkN ?_
    exact nI (y / 128, acc ++ [((y % 128 + 128 : Nat) : Int)], .slice (some ⟨g, 0, none⟩) (acc.length + 1) cap, oe') ⟨by rw [hI.1, numB_more hpos, List.append_assoc]; rfl, by unfold bv; rw [List.length_append, List.map_append]; exact hown', by rw [List.length_append]; exact half hI.2.2.1, .inr hpos⟩ (by show y / 128 < y; omega) ⟨rfl, rfl, trivial⟩ (List.Sublist.cons _ (List.Sublist.refl _))
  · have hpos : ¬ 0 < y / 128 := by (have := df h1; omega)
    have h64 : acc.length < 65 := hI.2.2.2.elim (fun h => by rw [h]; decide) (fun h => Nat.lt_succ_of_lt (len64 hI.2.2.1 h hx))
    refine cexit ?_
    refine nthenE ?_
    refine nIE ?_
    refine nblkE ?_
    refine nthen ?_
    refine cseq ?_
    refine creg ?_
    refine l1 (mvs rfl) ?_
    refine l1 (mvi rfl) ?_
    refine l1 (cvn ⟨_, Try.underlying22⟩ Try.underlying5 rfl (ru8 (by omega) (by omega))) ?_
    refine lbs Try.underlying56 rfl (bs56 _) (fun b2 => ?_)
    refine wl_perm (ins_perm 0 _ _) ?_
    refine lapp [_] [] oe el56 (by rw [List.append_nil]; rfl) rfl hown rfl (news := [.int .u8 (y : Int)]) rfl (fun w' hw => by have := hw.mem (i := 0) rfl 0; simpa using this) (one1 rfl) (by decide) (by unfold maxLen; omega) (by omega) ?_
    intro g cap oe' hown'
    rw [List.append_nil]
    refine l1 (asg rfl) ?_
    refine lnil ?_
    refine nthen ?_
    refine cret ?_
    exact finM (.slice (some ⟨g, 0, none⟩) (acc.length + 1) cap) oe' (rv1 rfl (rvt rfl)) ⟨oe', List.Perm.refl _, List.Sublist.cons _ (List.Sublist.refl _)⟩ (by rw [hI.1, numB_last hpos]; unfold bv; rw [List.length_append, List.map_append]; exact hown')

def eqS (n : Nat) (t : Nat → ByteArray) (m : Nat) (u : Nat → ByteArray) : Bool := bif decide ((n : Int) ≠ (m : Int)) then false else (List.range n).all fun i => (t i).toList == (u i).toList
theorem eqS_ne {n m : Nat} {t u : Nat → ByteArray} (h : decide ((n : Int) ≠ (m : Int)) = true) : eqS n t m u = false := by unfold eqS; rw [h]; rfl
theorem eqS_no {n m i : Nat} {t u : Nat → ByteArray} (h : decide ((n : Int) ≠ (m : Int)) = false) (hi : i < n) (hne : ((t i).toList == (u i).toList) = false) : eqS n t m u = false := by
  unfold eqS; rw [h]
  cases hf : (List.range n).all fun i => (t i).toList == (u i).toList with
  | false => rfl
  | true => have := List.all_eq_true.1 hf i (List.mem_range.2 hi); rw [hne] at this; cases this
theorem eqS_yes {n m : Nat} {t u : Nat → ByteArray} (h : decide ((n : Int) ≠ (m : Int)) = false) (hall : ∀ i, i < n → ((t i).toList == (u i).toList) = true) : eqS n t m u = true := by
  unfold eqS; rw [h]
  exact List.all_eq_true.2 fun i hi => hall i (List.mem_range.1 hi)

theorem eqS_calls (w : World) (p : Option Addr) (n c : Nat) (t : Nat → ByteArray) (q : Option Addr) (m d : Nat) (u : Nat → ByteArray) (hn : (n : Int) ≤ 9223372036854775807) (hl : Sl w p n 1 (fun i => encT (t i))) (hk : Sl w q m 1 (fun i => encT (u i))) : Calls Try.prog 91 #[.slice p n c, .slice q m d] w (Ret (.bool (eqS n t m u)) w) := by
  refine fn_calls (n := 26) Try.func91 rfl rfl (lb rfl) ?_
  refine cseq ?_
  refine creg ?_
  refine l1 (asgb rfl) ?_
  refine lnil ?_
  refine nthen ?_
  refine cseq ?_
  refine cseq ?_
  refine creg ?_
  refine l1 (mvs rfl) ?_
  refine l1 (lens sl75 rfl rfl) ?_
  refine l1 (mvs rfl) ?_
  refine l1 (lens sl75 rfl rfl) ?_
  refine l1 (neq rfl rfl) ?_
  refine lnil ?_
  refine nthen ?_
  refine cif rfl (fun h1 => ?_) (fun h1 => ?_)
  · skip
    refine cseq ?_
    refine creg ?_
    refine l1 (asgb rfl) ?_
    refine lnil ?_
    refine nthen ?_
    refine cret ?_
    refine nthenR ?_
    exact fin1b rfl rfl ((eqS_ne h1).symm)
  · have hnm : n = m := by (have := df2 h1; omega)
    refine cskip ?_
    refine nthen ?_
    refine cseq ?_
    refine cseq ?_
    refine creg ?_
    refine l1 (mvs rfl) ?_
    refine l1 (lens sl75 rfl rfl) ?_
    refine l1 (mvi rfl) ?_
    refine lnil ?_
    refine nthen ?_
    refine cblock ?_
    refine cloopI (σ := Nat) (fun s => [(0, .slice p n c), (1, .slice q m d), (12, .int .i64 (n : Int)), (13, .int .i64 (s : Int))]) (fun s => []) (fun s => s ≤ n ∧ ∀ j, j < s → ((t j).toList == (u j).toList) = true) (fun s => n - s) 0 ⟨Nat.zero_le _, fun j hj => by omega⟩ ⟨rfl, rfl, rfl, rfl, trivial⟩ (List.Sublist.refl _) ?_
    rintro i j hI
    show WC _ _ _ ([]) _ _ (over j [(0, .slice p n c), (1, .slice q m d), (12, .int .i64 (n : Int)), (13, .int .i64 (i : Int))])
    replace hI : i ≤ n ∧ ∀ j, j < i → ((t j).toList == (u j).toList) = true := hI
    refine cseq ?_
    refine creg ?_
    refine l1 (lss rfl rfl) ?_
    refine lnil ?_
    refine nthen ?_
    refine cseq ?_
    refine cif rfl (fun h2 => ?_) (fun h2 => ?_)
    · have hlt : i < n := by (have := dt h2; omega)
      obtain ⟨b, o, hp, hbl, hm⟩ := hl.at hlt
      obtain ⟨b2, o2, hq, hbl2, hm2⟩ := hk.at (i := i) (by omega)
      refine cskip ?_
      refine nthen ?_
      refine cseq ?_
      refine cblock ?_
      refine cseq ?_
      refine creg ?_
      refine l1 (mvi rfl) ?_
      refine l1 (asgi rfl) ?_
      refine lnil ?_
      refine nthen ?_
      refine cseq ?_
      refine cregq mo (by kernel_rfl) ?_
      refine q1 (mvs rfl) ?_
      refine q1 (mvi rfl) ?_
      refine q1 (isp sl75 hp rfl rfl (by omega) (by omega)) ?_
      refine q1 (ldm (v := .string (t i)) Try.isAgg9 rfl (fun w' hw => ((hm i (by omega)).kept hw.below hbl).c0)) ?_
      refine q1 (mvs rfl) ?_
      refine q1 (mvi rfl) ?_
      refine q1 (isp sl75 hq rfl rfl (by omega) (by omega)) ?_
      refine q1 (ldm (v := .string (u i)) Try.isAgg9 rfl (fun w' hw => ((hm2 i (by omega)).kept hw.below hbl2).c0)) ?_
      refine q1 (neqs rfl rfl) ?_
      refine qnil ?_
      refine nthen ?_
      refine cif rfl (fun h3 => ?_) (fun h3 => ?_)
      · skip
        refine cseq ?_
        refine creg ?_
        refine l1 (asgb rfl) ?_
        refine lnil ?_
        refine nthen ?_
        refine cret ?_
        refine nblkR ?_
        refine nthenR ?_
        refine nIR ?_
        refine nblkR ?_
        refine nthenR ?_
        exact fin1b rfl rfl ((eqS_no h1 hlt (by simpa using h3)).symm)
      · skip
        refine cskip ?_
        refine nblkN ?_
        refine nthen ?_
        refine creg ?_
        first | refine l1 (addn rfl rfl (ri (by omega) (by omega))) ?_ | refine l1 (add rfl rfl) ?_
        refine l1 (mvi rfl) ?_
        refine lnil ?_
        exact nI (i + 1) ⟨by omega, fun j hj => (Nat.lt_succ_iff_lt_or_eq.1 hj).elim (fun h => hI.2 j h) (fun h => by subst h; simpa using h3)⟩ (by show n - (i + 1) < n - i; omega) ⟨rfl, rfl, rfl, rfl, trivial⟩ (List.Sublist.refl _)
    · have hge : n ≤ i := by (have := df h2; omega)
      refine cexit ?_
      refine nthenE ?_
      refine nIE ?_
      refine nblkE ?_
      refine nthen ?_
      refine cseq ?_
      refine creg ?_
      refine l1 (asgb rfl) ?_
      refine lnil ?_
      refine nthen ?_
      refine cret ?_
      exact fin1b rfl rfl ((eqS_yes h1 (fun j hj => hI.2 j (by omega))).symm)

structure ItSat (w : World) (i : It) : Prop where
  h : HdIn w i.hd
  g : Sl w i.gp i.gn 1 (fun k => encT (i.tag k))
theorem ItIn.sat {w0 w : World} {H : List Ent} {i : It} (h : ItIn H i) (hw : Sat w0 H w) : ItSat w i := ⟨SlIn.sl h.h hw, SlIn.sl h.g hw⟩
theorem ItSat.keptS {w0 w : World} {H : List Ent} {i : It} (h : ItSat w0 i) (hw : Sat w0 H w) : ItSat w i := ⟨Sl.keptS h.h hw, Sl.keptS h.g hw⟩
def sameI (a b : It) : Bool := (((((eqA 16 a.tok b.tok && sameH a.hd b.hd) && (a.known == b.known)) && (a.alive == b.alive)) && (a.name.toList == b.name.toList)) && eqS a.gn a.tag b.gn b.tag) && (a.value.toList == b.value.toList)

set_option maxHeartbeats 1000000 in
theorem sameI_calls (a b : It) (w : World) (ha : ItSat w a) (hb : ItSat w b) (ka : HdOk a.hd) (hn : (a.gn : Int) ≤ 9223372036854775807) : Calls Try.prog 55 #[.agg (encI a).toArray, .agg (encI b).toArray] w (Ret (.bool (sameI a b)) w) := by
  refine fn_calls (n := 52) Try.func55 rfl rfl (lb rfl) ?_
  refine cseq ?_
  refine creg ?_
  refine lbxa rfl (fun b1 => ?_)
  refine lbxa rfl (fun b2 => ?_)
  refine l1 (asgb rfl) ?_
  refine lnil ?_
  refine nthen ?_
  refine cseq ?_
  refine creg ?_
  refine l1 (fa fa83_0 rfl) ?_
  refine l1 (lda 0 Try.isAgg34 Try.sizeOf34 rfl rfl (encI_tok _) rfl) ?_
  refine l1 (fa fa83_0 rfl) ?_
  refine l1 (lda 1 Try.isAgg34 Try.sizeOf34 rfl rfl (encI_tok _) rfl) ?_
  refine l1 (eqla rfl rfl (fun w => eql34 _ _ w)) ?_
  refine l1 (mvb rfl) ?_
  refine l1g rfl (gwt rfl) (fun h => fa fa83_1 rfl) ?_
  refine l1g rfl (gwt rfl) (fun h => lda 0 Try.isAgg37 Try.sizeOf37 rfl (gvt h) (encI_hd _) rfl) ?_
  refine l1g rfl (gwt rfl) (fun h => fa fa83_1 rfl) ?_
  refine l1g rfl (gwt rfl) (fun h => lda 1 Try.isAgg37 Try.sizeOf37 rfl (gvt h) (encI_hd _) rfl) ?_
  refine l1g rfl (gwt rfl) (fun h => cl hb47 rfl (mc (gvt h) (mc (gvt h) mn)) (fun w hw => sameH_calls _ _ w (Sl.keptS ha.h hw) (Sl.keptS hb.h hw) ka)) ?_
  refine l1 (pk_and rfl rfl rfl) ?_
  refine l1 (mvb rfl) ?_
  refine l1g rfl (gwt rfl) (fun h => fa fa83_2 rfl) ?_
  refine l1g rfl (gwt rfl) (fun h => ldc 0 Try.isAgg4 rfl (gvt h) rfl) ?_
  refine l1g rfl (gwt rfl) (fun h => fa fa83_2 rfl) ?_
  refine l1g rfl (gwt rfl) (fun h => ldc 1 Try.isAgg4 rfl (gvt h) rfl) ?_
  refine l1g rfl (gwt rfl) (fun h => eqlb Try.underlying4 (gvt h) (gvt h)) ?_
  refine l1 (pk_and rfl rfl rfl) ?_
  refine l1 (mvb rfl) ?_
  refine l1g rfl (gwt rfl) (fun h => fa fa83_3 rfl) ?_
  refine l1g rfl (gwt rfl) (fun h => ldc 0 Try.isAgg4 rfl (gvt h) rfl) ?_
  refine l1g rfl (gwt rfl) (fun h => fa fa83_3 rfl) ?_
  refine l1g rfl (gwt rfl) (fun h => ldc 1 Try.isAgg4 rfl (gvt h) rfl) ?_
  refine l1g rfl (gwt rfl) (fun h => eqlb Try.underlying4 (gvt h) (gvt h)) ?_
  refine l1 (pk_and rfl rfl rfl) ?_
  refine l1 (mvb rfl) ?_
  refine l1g rfl (gwt rfl) (fun h => fa fa83_4 rfl) ?_
  refine l1g rfl (gwt rfl) (fun h => ldc 0 Try.isAgg9 rfl (gvt h) rfl) ?_
  refine l1g rfl (gwt rfl) (fun h => fa fa83_4 rfl) ?_
  refine l1g rfl (gwt rfl) (fun h => ldc 1 Try.isAgg9 rfl (gvt h) rfl) ?_
  refine l1g rfl (gwt rfl) (fun h => eqls (gvt h) (gvt h)) ?_
  refine l1 (pk_and rfl rfl rfl) ?_
  refine l1 (mvb rfl) ?_
  refine l1g rfl (gwt rfl) (fun h => fa fa83_5 rfl) ?_
  refine l1g rfl (gwt rfl) (fun h => ldc 0 Try.isAgg75 rfl (gvt h) rfl) ?_
  refine l1g rfl (gwt rfl) (fun h => fa fa83_5 rfl) ?_
  refine l1g rfl (gwt rfl) (fun h => ldc 1 Try.isAgg75 rfl (gvt h) rfl) ?_
  refine l1g rfl (gwt rfl) (fun h => cl hb91 rfl (mc (gvt h) (mc (gvt h) mn)) (fun w hw => eqS_calls w _ _ _ _ _ _ _ _ hn (Sl.keptS ha.g hw) (Sl.keptS hb.g hw))) ?_
  refine l1 (pk_and rfl rfl rfl) ?_
  refine l1 (mvb rfl) ?_
  refine l1g rfl (gwt rfl) (fun h => fa fa83_6 rfl) ?_
  refine l1g rfl (gwt rfl) (fun h => ldc 0 Try.isAgg9 rfl (gvt h) rfl) ?_
  refine l1g rfl (gwt rfl) (fun h => fa fa83_6 rfl) ?_
  refine l1g rfl (gwt rfl) (fun h => ldc 1 Try.isAgg9 rfl (gvt h) rfl) ?_
  refine l1g rfl (gwt rfl) (fun h => eqls (gvt h) (gvt h)) ?_
  refine l1 (pk_and rfl rfl rfl) ?_
  refine l1 (asgb rfl) ?_
  refine lnil ?_
  refine nthen ?_
  refine cret ?_
  exact fin1b rfl rfl rfl
end Go.Proofs.Ytkdbjhlkahkobaa
/- walks, printed by a program of ours -/
namespace Go.Proofs.Ytkdbjhlkahkobaa
open Jal Go.RowKit
set_option maxRecDepth 100000
theorem own_pos {p : Option Addr} {n c : Nat} {xs : List Value} {oe : List Ent} (h : OwnL 5 1 (.slice p n c) n xs oe) (hn : 0 < n) : ∃ g, p = some ⟨g, 0, none⟩ := by
  rcases h.2 with ⟨_, h0, _⟩ | ⟨g, cap, cur, h1, _⟩
  · omega
  · cases h1; exact ⟨g, rfl⟩
theorem u64N_id {a : Int} (h : U64 a) : ((u64N a : Nat) : Int) = a := by
  unfold U64 at h
  rw [(u64N_eq a).1, ru (by omega) (by omega)]
theorem own_memg {w0 w : World} {H oe : List Ent} {g m c : Nat} {xs : List Value} (h : OwnL 5 1 (.slice (some ⟨g, 0, none⟩) m c) m xs oe) (hw : Sat w0 H w) (hs : oe.Sublist H) (hm : 0 < m) : Mem w ⟨g, 0, none⟩ xs := by
  obtain ⟨ad, h1, h2⟩ := own_mem h hw hs hm
  cases h1; exact h2
def ctlI (h : Hd) : Int := bif h.control then 1 else 0

def B0 (h : Hd) : List Int := numB (u64N h.writer) ++ numB (u64N h.seq) ++ aL 32 h.prev ++ numB (u64N h.epoch) ++ [ctlI h] ++ numB (u64N h.time) ++ aL 16 h.item ++ numB h.tn
def B1 (h : Hd) : List Int := B0 h ++ flatI h.tn (fun i => aL 16 (h.tok i))
theorem flatI_succ (n : Nat) (f : Nat → List Int) : flatI (n + 1) f = flatI n f ++ f n := by
  unfold flatI; rw [List.range_succ, List.flatMap_append]; simp
theorem flatI_len {f : Nat → List Int} {m : Nat} (hf : ∀ i, (f i).length ≤ m) : ∀ n, (flatI n f).length ≤ n * m
  | 0 => Nat.zero_le _
  | n + 1 => by
    rw [flatI_succ, List.length_append, Nat.add_mul]
    have := flatI_len hf n
    have := hf n
    omega
theorem aL_len (n : Nat) (f : Nat → Int) : (aL n f).length = n := by simp [aL]
theorem B0_len (h : Hd) (ht : h.tn ≤ 20) : (B0 h).length ≤ 500 := by
  have ny1 := numB_len 64 (u64N h.writer) (u64N_eq _).2
  have ny2 := numB_len 64 (u64N h.seq) (u64N_eq _).2
  have ny3 := numB_len 64 (u64N h.epoch) (u64N_eq _).2
  have ny4 := numB_len 64 (u64N h.time) (u64N_eq _).2
  have ny5 := numB_len 64 h.tn (by omega)
  unfold B0
  simp only [List.length_append, aL_len, List.length_cons, List.length_nil]
  omega
theorem T_len (h : Hd) (n : Nat) : (flatI n (fun i => aL 16 (h.tok i))).length ≤ n * 16 := flatI_len (fun i => by rw [aL_len]; exact Nat.le_refl _) n
theorem K_len (h : Hd) (n : Nat) : (flatI n (fun i => numB (u64N (h.knows i)))).length ≤ n * 65 := flatI_len (fun i => numB_len 64 _ (u64N_eq _).2) n
theorem own_re {v : Value} {n : Nat} {xs ys : List Int} {oe : List Ent} (h : OwnL 5 1 v n (bv xs) oe) (e : xs = ys) : OwnL 5 1 v ys.length (bv ys) oe := by
  subst e
  have h1 := h.1
  rw [bv_len, Nat.mul_one] at h1
  rw [h1]; exact h
theorem B0_pos (h : Hd) (l : List Int) : 0 < (B0 h ++ l).length := by
  have := numB_pos h.tn
  unfold B0
  simp only [List.length_append]
  omega
theorem encH_know (h : Hd) {i : Nat} (hi : i < 6) : (encH h)[0 + 54 + (i : Int).toNat * 1]? = some (.int .u64 (h.knows i)) := by
  match i, hi with
  | 0, _ => rfl
  | 1, _ => rfl
  | 2, _ => rfl
  | 3, _ => rfl
  | 4, _ => rfl
  | 5, _ => rfl

set_option maxHeartbeats 2000000 in
theorem core_bytes (h : Hd) (w : World) (hh : HdIn w h) (kh : HdOk h) (ht : h.tn ≤ 20) : Calls Try.prog 119 #[.agg (encH h).toArray] w (RetM (fun v Hn => OwnL 5 1 v (coreBy h).length (bv (coreBy h)) Hn) w) := by
  refine fn_calls (n := 83) Try.func119 rfl rfl (lb rfl) ?_
  have ny1 := numB_len 64 (u64N h.writer) (u64N_eq _).2
  have ny2 := numB_len 64 (u64N h.seq) (u64N_eq _).2
  have ny3 := numB_len 64 (u64N h.epoch) (u64N_eq _).2
  have ny4 := numB_len 64 (u64N h.time) (u64N_eq _).2
  have ny5 := numB_len 64 h.tn (by omega)
  have ny6 := numB_len 64 (u64N h.size) (u64N_eq _).2
  refine cseq ?_
  refine creg ?_
  refine lbxa rfl (fun b1 => ?_)
  refine l1 (asg rfl) ?_
  refine lnil ?_
  refine nthen ?_
  refine cseq ?_
  refine creg ?_
  refine l1 (fa fa37_0 rfl) ?_
  refine l1 (ldc 0 Try.isAgg3 rfl rfl rfl) ?_
  refine l1 (cvi ⟨_, Try.underlying3⟩ Try.underlying22 rfl) ?_
  refine lclm hb137 rfl (mc (show _ = Value.int .u64 ((u64N h.writer : Nat) : Int) by rw [(u64N_eq h.writer).1]; rfl) mn) (fun w' hw => num_calls (u64N h.writer) ((u64N_eq _).2) w') ?_
  rintro v10 H10 k10
  obtain ⟨p10, c10, rfl⟩ := k10.form
  obtain ⟨g10, rfl⟩ := own_pos k10 (numB_pos _)
  refine l1 (asgs rfl) ?_
  refine lnil ?_
  refine nthen ?_
  refine cseq ?_
  refine creg ?_
  refine l1 (mvs rfl) ?_
  refine l1 (fa fa37_1 rfl) ?_
  refine l1 (ldc 0 Try.isAgg22 rfl rfl rfl) ?_
  refine lclm hb137 rfl (mc (show _ = Value.int .u64 ((u64N h.seq : Nat) : Int) by rw [u64N_id kh.s]; rfl) mn) (fun w' hw => num_calls (u64N h.seq) ((u64N_eq _).2) w') ?_
  rintro v14 H14 k14
  obtain ⟨p14, c14, rfl⟩ := k14.form
  obtain ⟨g14, rfl⟩ := own_pos k14 (numB_pos _)
  refine lapp [_] H14 H10 el56 rfl rfl k10 rfl (news := bv (numB (u64N h.seq))) (by rw [bv_len, Nat.mul_one]) (fun w' hw => own_memg k14 hw (List.Sublist.cons _ (List.sublist_append_right _ _)) (numB_pos _)) (bv_one _) (numB_pos _) (by unfold maxLen; omega) (by omega) ?_
  intro g15 c15 o15 k15
  rw [← bv_app] at k15
  refine wl_sub (H' := ⟨b1, encH h, 37⟩ :: o15) (List.Sublist.cons_cons _ (List.sublist_append_left _ _)) ?_
  refine l1 (asgs rfl) ?_
  refine lnil ?_
  refine nthen ?_
  refine cseq ?_
  refine creg ?_
  refine l1 (mvs rfl) ?_
  refine l1 (fa fa37_2 rfl) ?_
  refine l1 (slall Try.underlying32 Try.sizeOf5 rfl) ?_
  refine lapp [_] [] o15 el56 (by rw [List.append_nil]; rfl) rfl k15 rfl (news := arr .u8 32 h.prev) rfl (fun w' hw => mem_part 2 32 (hw.mem (i := 0) rfl 0)) (oneA rfl) (by decide) (by unfold maxLen; omega) (by omega) ?_
  intro g19 c19 o19 k19
  rw [← bv_aL, ← bv_app] at k19
  rw [List.append_nil]
  refine l1 (asgs rfl) ?_
  refine lnil ?_
  refine nthen ?_
  refine cseq ?_
  refine creg ?_
  refine l1 (mvs rfl) ?_
  refine l1 (fa fa37_3 rfl) ?_
  refine l1 (ldc 0 Try.isAgg3 rfl rfl rfl) ?_
  refine l1 (cvi ⟨_, Try.underlying3⟩ Try.underlying22 rfl) ?_
  refine lclm hb137 rfl (mc (show _ = Value.int .u64 ((u64N h.epoch : Nat) : Int) by rw [(u64N_eq h.epoch).1]; rfl) mn) (fun w' hw => num_calls (u64N h.epoch) ((u64N_eq _).2) w') ?_
  rintro v24 H24 k24
  obtain ⟨p24, c24, rfl⟩ := k24.form
  obtain ⟨g24, rfl⟩ := own_pos k24 (numB_pos _)
  refine lapp [_] H24 o19 el56 rfl rfl k19 rfl (news := bv (numB (u64N h.epoch))) (by rw [bv_len, Nat.mul_one]) (fun w' hw => own_memg k24 hw (List.Sublist.cons _ (List.sublist_append_right _ _)) (numB_pos _)) (bv_one _) (numB_pos _) (by unfold maxLen; omega) (by omega) ?_
  intro g25 c25 o25 k25
  rw [← bv_app] at k25
  refine wl_sub (H' := ⟨b1, encH h, 37⟩ :: o25) (List.Sublist.cons_cons _ (List.sublist_append_left _ _)) ?_
  refine l1 (asgs rfl) ?_
  refine lnil ?_
  refine nthen ?_
  refine cseq ?_
  refine creg ?_
  refine l1 (asg rfl) ?_
  refine lnil ?_
  refine nthen ?_
  refine cseq ?_
  refine cseq ?_
  refine creg ?_
  refine l1 (fa fa37_4 rfl) ?_
  refine l1 (ldc 0 Try.isAgg4 rfl rfl rfl) ?_
  refine lnil ?_
  refine nthen ?_
  refine cif rfl (fun h1 => ?_) (fun h1 => ?_)
  · have hct : ctlI h = 1 := by (unfold ctlI; rw [h1]; rfl)
    refine creg ?_
    refine l1 (asg rfl) ?_
    refine lnil ?_
    refine nthen ?_
    refine cseq ?_
    refine creg ?_
    refine l1 (mvs rfl) ?_
    refine l1 (mvi rfl) ?_
    refine lbs Try.underlying56 rfl (bs56 _) (fun b2 => ?_)
    refine wl_perm (ins_perm 1 _ _) ?_
    refine lapp [_, _] [] o25 el56 (by rw [List.append_nil]; rfl) rfl k25 rfl (news := bv [ctlI h]) rfl (fun w' hw => by rw [hct]; have := hw.mem (i := 1) rfl 0; simpa [bv] using this) (bv_one _) (by decide) (by unfold maxLen; omega) (by omega) ?_
    intro g31 c31 o31 k31
    rw [← bv_app] at k31
    rw [List.append_nil]
    refine wl_sub (H' := ⟨b1, encH h, 37⟩ :: o31) (List.Sublist.cons_cons _ (List.Sublist.cons _ (List.Sublist.refl _))) ?_
    refine l1 (asgs rfl) ?_
    refine lnil ?_
    refine nthen ?_
    refine cseq ?_
    refine creg ?_
    refine l1 (mvs rfl) ?_
    refine l1 (fa fa37_5 rfl) ?_
    refine l1 (ldc 0 Try.isAgg22 rfl rfl rfl) ?_
    refine lclm hb137 rfl (mc (show _ = Value.int .u64 ((u64N h.time : Nat) : Int) by rw [u64N_id kh.t]; rfl) mn) (fun w' hw => num_calls (u64N h.time) ((u64N_eq _).2) w') ?_
    rintro v35 H35 k35
    obtain ⟨p35, c35, rfl⟩ := k35.form
    obtain ⟨g35, rfl⟩ := own_pos k35 (numB_pos _)
    refine lapp [_] H35 o31 el56 rfl rfl k31 rfl (news := bv (numB (u64N h.time))) (by rw [bv_len, Nat.mul_one]) (fun w' hw => own_memg k35 hw (List.Sublist.cons _ (List.sublist_append_right _ _)) (numB_pos _)) (bv_one _) (numB_pos _) (by unfold maxLen; omega) (by omega) ?_
    intro g36 c36 o36 k36
    rw [← bv_app] at k36
    refine wl_sub (H' := ⟨b1, encH h, 37⟩ :: o36) (List.Sublist.cons_cons _ (List.sublist_append_left _ _)) ?_
    refine l1 (asgs rfl) ?_
    refine lnil ?_
    refine nthen ?_
    refine cseq ?_
    refine creg ?_
    refine l1 (mvs rfl) ?_
    refine l1 (fa fa37_6 rfl) ?_
    refine l1 (slall Try.underlying34 Try.sizeOf5 rfl) ?_
    refine lapp [_] [] o36 el56 (by rw [List.append_nil]; rfl) rfl k36 rfl (news := arr .u8 16 h.item) rfl (fun w' hw => mem_part 37 16 (hw.mem (i := 0) rfl 0)) (oneA rfl) (by decide) (by unfold maxLen; omega) (by omega) ?_
    intro g40 c40 o40 k40
    rw [← bv_aL, ← bv_app] at k40
    rw [List.append_nil]
    refine l1 (asgs rfl) ?_
    refine lnil ?_
    refine nthen ?_
    refine cseq ?_
    refine creg ?_
    refine l1 (mvs rfl) ?_
    refine l1 (fa fa37_7 rfl) ?_
    refine l1 (ldc 0 Try.isAgg35 rfl rfl rfl) ?_
    refine l1 (lens sl35 rfl rfl) ?_
    refine l1 (cvn ⟨_, Try.underlying3⟩ Try.underlying22 rfl (ru (by omega) (by omega))) ?_
    refine lclm hb137 rfl (mc (show _ = Value.int .u64 ((h.tn : Nat) : Int) by rfl) mn) (fun w' hw => num_calls (h.tn) (by omega) w') ?_
    rintro v46 H46 k46
    obtain ⟨p46, c46, rfl⟩ := k46.form
    obtain ⟨g46, rfl⟩ := own_pos k46 (numB_pos _)
    refine lapp [_] H46 o40 el56 rfl rfl k40 rfl (news := bv (numB (h.tn))) (by rw [bv_len, Nat.mul_one]) (fun w' hw => own_memg k46 hw (List.Sublist.cons _ (List.sublist_append_right _ _)) (numB_pos _)) (bv_one _) (numB_pos _) (by unfold maxLen; omega) (by omega) ?_
    intro g47 c47 o47 k47
    rw [← bv_app] at k47
    refine wl_sub (H' := ⟨b1, encH h, 37⟩ :: o47) (List.Sublist.cons_cons _ (List.sublist_append_left _ _)) ?_
    refine l1 (asgs rfl) ?_
    refine lnil ?_
    refine nthen ?_
    refine cseq ?_
    refine cseq ?_
    refine creg ?_
    refine l1 (asgi rfl) ?_
    refine lnil ?_
    refine nthen ?_
    refine cblock ?_
    refine cloopI (σ := Nat × Value × List Ent) (fun s => [(1, .pointer (some ⟨b1, 0, none⟩)), (3, s.2.1), (5, .int .i64 (s.1 : Int))]) (fun s => ([⟨b1, encH h, 37⟩] ++ (s.2.2))) (fun s => s.1 ≤ h.tn ∧ OwnL 5 1 s.2.1 (B0 h ++ flatI s.1 (fun i => aL 16 (h.tok i))).length (bv (B0 h ++ flatI s.1 (fun i => aL 16 (h.tok i)))) s.2.2) (fun s => h.tn - s.1) (0, _, o47) ⟨Nat.zero_le _, own_re k47 (by exact (List.append_nil _).symm)⟩ ⟨rfl, rfl, rfl, trivial⟩ (List.Sublist.refl _) ?_
    rintro ⟨i, v3, oe⟩ j hI; replace hI : i ≤ h.tn ∧ OwnL 5 1 v3 (B0 h ++ flatI i (fun i => aL 16 (h.tok i))).length (bv (B0 h ++ flatI i (fun i => aL 16 (h.tok i)))) oe := hI; obtain ⟨hi, hown⟩ := hI; obtain ⟨p3, c3, rfl⟩ := hown.form; obtain ⟨g3, rfl⟩ := own_pos hown (B0_pos h _); have hx0 := B0_len h ht; have hx1 := T_len h i; have hx2 := T_len h h.tn; have hx3 := K_len h i; have hx4 := numB_len 64 (u64N (h.knows i)) (u64N_eq _).2; have hx5 : (B0 h ++ flatI i (fun i => aL 16 (h.tok i))).length ≤ 3000 := (by unfold flatI at *; simp only [List.length_append] at *; omega)
    show WC _ _ _ (⟨b1, encH h, 37⟩ :: (oe)) _ _ (over j [(1, .pointer (some ⟨b1, 0, none⟩)), (3, .slice (some ⟨g3, 0, none⟩) (B0 h ++ flatI i (fun i => aL 16 (h.tok i))).length c3), (5, .int .i64 (i : Int))])
    refine cseq ?_
    refine cseq ?_
    refine creg ?_
    refine l1 (mvi rfl) ?_
    refine l1 (fa fa37_7 rfl) ?_
    refine l1 (ldc 0 Try.isAgg35 rfl rfl rfl) ?_
    refine l1 (lens sl35 rfl rfl) ?_
    refine l1 (lss rfl rfl) ?_
    refine lnil ?_
    refine nthen ?_
    refine cif rfl (fun h2 => ?_) (fun h2 => ?_)
    · have hlt : i < h.tn := by (have := dt h2; omega)
      obtain ⟨b, o, hp, hbl, hm⟩ := hh.at hlt
      refine cskip ?_
      refine nthen ?_
      refine cseq ?_
      refine cblock ?_
      refine creg ?_
      refine l1 (mvs rfl) ?_
      refine l1 (fa fa37_7 rfl) ?_
      refine l1 (ldc 0 Try.isAgg35 rfl rfl rfl) ?_
      refine l1 (mvi rfl) ?_
      refine l1 (isp sl35 hp rfl rfl (by omega) (by omega)) ?_
      refine l1 (slall Try.underlying34 Try.sizeOf5 rfl) ?_
      refine lapp [_] [] oe el56 (by rw [List.append_nil]; rfl) rfl hown rfl (news := arr .u8 16 (h.tok i)) rfl (fun w' hw => (hm i hlt).kept hw.below hbl) (oneA rfl) (by decide) (by unfold maxLen; omega) (by omega) ?_
      intro g61 c61 o61 k61
      rw [← bv_aL, ← bv_app] at k61
      rw [List.append_nil]
      refine l1 (asgs rfl) ?_
      refine lnil ?_
      refine nblkN ?_
      refine nthen ?_
      refine creg ?_
      refine l1 (mvi rfl) ?_
      first | refine l1 (addn rfl rfl (ri (by omega) (by omega))) ?_ | refine l1 (add rfl rfl) ?_
      refine l1 (asgi rfl) ?_
      refine lnil ?_
      exact nI (i + 1, _, o61) ⟨(by show i + 1 ≤ h.tn; omega), own_re k61 (by show _ = B0 h ++ flatI (i + 1) _; rw [flatI_succ, List.append_assoc])⟩ (by show h.tn - (i + 1) < h.tn - i; omega) ⟨rfl, rfl, rfl, trivial⟩ (List.Sublist.refl _)
    · have hin : i = h.tn := by (have := df h2; omega)
      refine cexit ?_
      refine nthenE ?_
      refine nIE ?_
      refine nblkE ?_
      refine nthen ?_
      refine cseq ?_
      refine cseq ?_
      refine creg ?_
      refine l1 (asgi rfl) ?_
      refine lnil ?_
      refine nthen ?_
      refine cblock ?_
      refine cloopI (σ := Nat × Value × List Ent) (fun s => [(1, .pointer (some ⟨b1, 0, none⟩)), (3, s.2.1), (6, .int .i64 (s.1 : Int))]) (fun s => ([⟨b1, encH h, 37⟩] ++ (s.2.2))) (fun s => s.1 ≤ 6 ∧ OwnL 5 1 s.2.1 (B1 h ++ flatI s.1 (fun i => numB (u64N (h.knows i)))).length (bv (B1 h ++ flatI s.1 (fun i => numB (u64N (h.knows i))))) s.2.2) (fun s => 6 - s.1) (0, _, oe) ⟨Nat.zero_le _, own_re hown (by (have hie : i = h.tn := hin; subst hie; exact (List.append_nil _).symm))⟩ ⟨rfl, rfl, rfl, trivial⟩ (List.Sublist.refl _) ?_
      rintro ⟨i, v3, oe⟩ j hI; replace hI : i ≤ 6 ∧ OwnL 5 1 v3 (B1 h ++ flatI i (fun i => numB (u64N (h.knows i)))).length (bv (B1 h ++ flatI i (fun i => numB (u64N (h.knows i))))) oe := hI; obtain ⟨hi, hown⟩ := hI; obtain ⟨p3, c3, rfl⟩ := hown.form; obtain ⟨g3, rfl⟩ := own_pos hown (by unfold B1; rw [List.append_assoc]; exact B0_pos h _); have hx0 := B0_len h ht; have hx1 := T_len h i; have hx2 := T_len h h.tn; have hx3 := K_len h i; have hx4 := numB_len 64 (u64N (h.knows i)) (u64N_eq _).2; have hx5 : (B1 h ++ flatI i (fun i => numB (u64N (h.knows i)))).length ≤ 3000 := (by unfold B1 flatI at *; simp only [List.length_append] at *; omega)
      show WC _ _ _ (⟨b1, encH h, 37⟩ :: (oe)) _ _ (over j [(1, .pointer (some ⟨b1, 0, none⟩)), (3, .slice (some ⟨g3, 0, none⟩) (B1 h ++ flatI i (fun i => numB (u64N (h.knows i)))).length c3), (6, .int .i64 (i : Int))])
      refine cseq ?_
      refine cseq ?_
      refine creg ?_
      refine l1 (mvi rfl) ?_
      refine l1 (lss rfl rfl) ?_
      refine lnil ?_
      refine nthen ?_
      refine cif rfl (fun h3 => ?_) (fun h3 => ?_)
      · have hlt : i < 6 := by (have := dt h3; omega)
        refine cskip ?_
        refine nthen ?_
        refine cseq ?_
        refine cblock ?_
        refine creg ?_
        refine l1 (mvs rfl) ?_
        refine l1 (mvi rfl) ?_
        refine l1 (fa fa37_8 rfl) ?_
        refine l1 (ia ar23 rfl rfl (by first | omega | decide | (simp at *; omega)) (by first | omega | decide | (simp at *; omega))) ?_
        refine l1 (ldc 0 Try.isAgg22 rfl rfl (encH_know h hlt)) ?_
        refine lclm hb137 rfl (mc (show _ = Value.int .u64 ((u64N (h.knows i) : Nat) : Int) by rw [u64N_id (kh.k i hlt)]; rfl) mn) (fun w' hw => num_calls (u64N (h.knows i)) ((u64N_eq _).2) w') ?_
        rintro v71 H71 k71
        obtain ⟨p71, c71, rfl⟩ := k71.form
        obtain ⟨g71, rfl⟩ := own_pos k71 (numB_pos _)
        refine lapp [_] H71 oe el56 rfl rfl hown rfl (news := bv (numB (u64N (h.knows i)))) (by rw [bv_len, Nat.mul_one]) (fun w' hw => own_memg k71 hw (List.Sublist.cons _ (List.sublist_append_right _ _)) (numB_pos _)) (bv_one _) (numB_pos _) (by unfold maxLen; omega) (by omega) ?_
        intro g72 c72 o72 k72
        rw [← bv_app] at k72
        refine wl_sub (H' := ⟨b1, encH h, 37⟩ :: o72) (List.Sublist.cons_cons _ (List.sublist_append_left _ _)) ?_
        refine l1 (asgs rfl) ?_
        refine lnil ?_
        refine nblkN ?_
        refine nthen ?_
        refine creg ?_
        refine l1 (mvi rfl) ?_
        first | refine l1 (addn rfl rfl (ri (by omega) (by omega))) ?_ | refine l1 (add rfl rfl) ?_
        refine l1 (asgi rfl) ?_
        refine lnil ?_
        exact nI (i + 1, _, o72) ⟨(by show i + 1 ≤ 6; omega), own_re k72 (by show _ = B1 h ++ flatI (i + 1) _; rw [flatI_succ, List.append_assoc])⟩ (by show 6 - (i + 1) < 6 - i; omega) ⟨rfl, rfl, rfl, trivial⟩ (List.Sublist.refl _)
      · have hin6 : i = 6 := by (have := df h3; omega)
        subst hin6
        refine cexit ?_
        refine nthenE ?_
        refine nIE ?_
        refine nblkE ?_
        refine nthen ?_
        refine cseq ?_
        refine creg ?_
        refine l1 (mvs rfl) ?_
        refine l1 (fa fa37_9 rfl) ?_
        refine l1 (slall Try.underlying32 Try.sizeOf5 rfl) ?_
        refine lapp [_] [] oe el56 (by rw [List.append_nil]; rfl) rfl hown rfl (news := arr .u8 32 h.sum) rfl (fun w' hw => mem_part 60 32 (hw.mem (i := 0) rfl 0)) (oneA rfl) (by decide) (by unfold maxLen; omega) (by omega) ?_
        intro g76 c76 o76 k76
        rw [← bv_aL, ← bv_app] at k76
        rw [List.append_nil]
        refine l1 (asgs rfl) ?_
        refine lnil ?_
        refine nthen ?_
        refine cseq ?_
        refine creg ?_
        refine l1 (mvs rfl) ?_
        refine l1 (fa fa37_10 rfl) ?_
        refine l1 (ldc 0 Try.isAgg3 rfl rfl rfl) ?_
        refine l1 (cvi ⟨_, Try.underlying3⟩ Try.underlying22 rfl) ?_
        refine lclm hb137 rfl (mc (show _ = Value.int .u64 ((u64N h.size : Nat) : Int) by rw [(u64N_eq h.size).1]; rfl) mn) (fun w' hw => num_calls (u64N h.size) ((u64N_eq _).2) w') ?_
        rintro v81 H81 k81
        obtain ⟨p81, c81, rfl⟩ := k81.form
        obtain ⟨g81, rfl⟩ := own_pos k81 (numB_pos _)
        refine lapp [_] H81 o76 el56 rfl rfl k76 rfl (news := bv (numB (u64N h.size))) (by rw [bv_len, Nat.mul_one]) (fun w' hw => own_memg k81 hw (List.Sublist.cons _ (List.sublist_append_right _ _)) (numB_pos _)) (bv_one _) (numB_pos _) (by unfold maxLen; omega) (by omega) ?_
        intro g82 c82 o82 k82
        rw [← bv_app] at k82
        refine wl_sub (H' := ⟨b1, encH h, 37⟩ :: o82) (List.Sublist.cons_cons _ (List.sublist_append_left _ _)) ?_
        refine l1 (asg rfl) ?_
        refine lnil ?_
        refine nthen ?_
        refine cret ?_
        exact finM _ o82 (rv1 rfl (rvt rfl)) ⟨_, List.Perm.refl _, List.Sublist.cons _ (List.Sublist.refl _)⟩ (own_re k82 rfl)
  · have hct : ctlI h = 0 := by (unfold ctlI; rw [h1]; rfl)
    refine cskip ?_
    refine nthen ?_
    refine cseq ?_
    refine creg ?_
    refine l1 (mvs rfl) ?_
    refine l1 (mvi rfl) ?_
    refine lbs Try.underlying56 rfl (bs56 _) (fun b3 => ?_)
    refine wl_perm (ins_perm 1 _ _) ?_
    refine lapp [_, _] [] o25 el56 (by rw [List.append_nil]; rfl) rfl k25 rfl (news := bv [ctlI h]) rfl (fun w' hw => by rw [hct]; have := hw.mem (i := 1) rfl 0; simpa [bv] using this) (bv_one _) (by decide) (by unfold maxLen; omega) (by omega) ?_
    intro g31 c31 o31 k31
    rw [← bv_app] at k31
    rw [List.append_nil]
    refine wl_sub (H' := ⟨b1, encH h, 37⟩ :: o31) (List.Sublist.cons_cons _ (List.Sublist.cons _ (List.Sublist.refl _))) ?_
    refine l1 (asgs rfl) ?_
    refine lnil ?_
    refine nthen ?_
    refine cseq ?_
    refine creg ?_
    refine l1 (mvs rfl) ?_
    refine l1 (fa fa37_5 rfl) ?_
    refine l1 (ldc 0 Try.isAgg22 rfl rfl rfl) ?_
    refine lclm hb137 rfl (mc (show _ = Value.int .u64 ((u64N h.time : Nat) : Int) by rw [u64N_id kh.t]; rfl) mn) (fun w' hw => num_calls (u64N h.time) ((u64N_eq _).2) w') ?_
    rintro v35 H35 k35
    obtain ⟨p35, c35, rfl⟩ := k35.form
    obtain ⟨g35, rfl⟩ := own_pos k35 (numB_pos _)
    refine lapp [_] H35 o31 el56 rfl rfl k31 rfl (news := bv (numB (u64N h.time))) (by rw [bv_len, Nat.mul_one]) (fun w' hw => own_memg k35 hw (List.Sublist.cons _ (List.sublist_append_right _ _)) (numB_pos _)) (bv_one _) (numB_pos _) (by unfold maxLen; omega) (by omega) ?_
    intro g36 c36 o36 k36
    rw [← bv_app] at k36
    refine wl_sub (H' := ⟨b1, encH h, 37⟩ :: o36) (List.Sublist.cons_cons _ (List.sublist_append_left _ _)) ?_
    refine l1 (asgs rfl) ?_
    refine lnil ?_
    refine nthen ?_
    refine cseq ?_
    refine creg ?_
    refine l1 (mvs rfl) ?_
    refine l1 (fa fa37_6 rfl) ?_
    refine l1 (slall Try.underlying34 Try.sizeOf5 rfl) ?_
    refine lapp [_] [] o36 el56 (by rw [List.append_nil]; rfl) rfl k36 rfl (news := arr .u8 16 h.item) rfl (fun w' hw => mem_part 37 16 (hw.mem (i := 0) rfl 0)) (oneA rfl) (by decide) (by unfold maxLen; omega) (by omega) ?_
    intro g40 c40 o40 k40
    rw [← bv_aL, ← bv_app] at k40
    rw [List.append_nil]
    refine l1 (asgs rfl) ?_
    refine lnil ?_
    refine nthen ?_
    refine cseq ?_
    refine creg ?_
    refine l1 (mvs rfl) ?_
    refine l1 (fa fa37_7 rfl) ?_
    refine l1 (ldc 0 Try.isAgg35 rfl rfl rfl) ?_
    refine l1 (lens sl35 rfl rfl) ?_
    refine l1 (cvn ⟨_, Try.underlying3⟩ Try.underlying22 rfl (ru (by omega) (by omega))) ?_
    refine lclm hb137 rfl (mc (show _ = Value.int .u64 ((h.tn : Nat) : Int) by rfl) mn) (fun w' hw => num_calls (h.tn) (by omega) w') ?_
    rintro v46 H46 k46
    obtain ⟨p46, c46, rfl⟩ := k46.form
    obtain ⟨g46, rfl⟩ := own_pos k46 (numB_pos _)
    refine lapp [_] H46 o40 el56 rfl rfl k40 rfl (news := bv (numB (h.tn))) (by rw [bv_len, Nat.mul_one]) (fun w' hw => own_memg k46 hw (List.Sublist.cons _ (List.sublist_append_right _ _)) (numB_pos _)) (bv_one _) (numB_pos _) (by unfold maxLen; omega) (by omega) ?_
    intro g47 c47 o47 k47
    rw [← bv_app] at k47
    refine wl_sub (H' := ⟨b1, encH h, 37⟩ :: o47) (List.Sublist.cons_cons _ (List.sublist_append_left _ _)) ?_
    refine l1 (asgs rfl) ?_
    refine lnil ?_
    refine nthen ?_
    refine cseq ?_
    refine cseq ?_
    refine creg ?_
    refine l1 (asgi rfl) ?_
    refine lnil ?_
    refine nthen ?_
    refine cblock ?_
    refine cloopI (σ := Nat × Value × List Ent) (fun s => [(1, .pointer (some ⟨b1, 0, none⟩)), (3, s.2.1), (5, .int .i64 (s.1 : Int))]) (fun s => ([⟨b1, encH h, 37⟩] ++ (s.2.2))) (fun s => s.1 ≤ h.tn ∧ OwnL 5 1 s.2.1 (B0 h ++ flatI s.1 (fun i => aL 16 (h.tok i))).length (bv (B0 h ++ flatI s.1 (fun i => aL 16 (h.tok i)))) s.2.2) (fun s => h.tn - s.1) (0, _, o47) ⟨Nat.zero_le _, own_re k47 (by exact (List.append_nil _).symm)⟩ ⟨rfl, rfl, rfl, trivial⟩ (List.Sublist.refl _) ?_
    rintro ⟨i, v3, oe⟩ j hI; replace hI : i ≤ h.tn ∧ OwnL 5 1 v3 (B0 h ++ flatI i (fun i => aL 16 (h.tok i))).length (bv (B0 h ++ flatI i (fun i => aL 16 (h.tok i)))) oe := hI; obtain ⟨hi, hown⟩ := hI; obtain ⟨p3, c3, rfl⟩ := hown.form; obtain ⟨g3, rfl⟩ := own_pos hown (B0_pos h _); have hx0 := B0_len h ht; have hx1 := T_len h i; have hx2 := T_len h h.tn; have hx3 := K_len h i; have hx4 := numB_len 64 (u64N (h.knows i)) (u64N_eq _).2; have hx5 : (B0 h ++ flatI i (fun i => aL 16 (h.tok i))).length ≤ 3000 := (by unfold flatI at *; simp only [List.length_append] at *; omega)
    show WC _ _ _ (⟨b1, encH h, 37⟩ :: (oe)) _ _ (over j [(1, .pointer (some ⟨b1, 0, none⟩)), (3, .slice (some ⟨g3, 0, none⟩) (B0 h ++ flatI i (fun i => aL 16 (h.tok i))).length c3), (5, .int .i64 (i : Int))])
    refine cseq ?_
    refine cseq ?_
    refine creg ?_
    refine l1 (mvi rfl) ?_
    refine l1 (fa fa37_7 rfl) ?_
    refine l1 (ldc 0 Try.isAgg35 rfl rfl rfl) ?_
    refine l1 (lens sl35 rfl rfl) ?_
    refine l1 (lss rfl rfl) ?_
    refine lnil ?_
    refine nthen ?_
    refine cif rfl (fun h4 => ?_) (fun h4 => ?_)
    · have hlt : i < h.tn := by (have := dt h4; omega)
      obtain ⟨b, o, hp, hbl, hm⟩ := hh.at hlt
      refine cskip ?_
      refine nthen ?_
      refine cseq ?_
      refine cblock ?_
      refine creg ?_
      refine l1 (mvs rfl) ?_
      refine l1 (fa fa37_7 rfl) ?_
      refine l1 (ldc 0 Try.isAgg35 rfl rfl rfl) ?_
      refine l1 (mvi rfl) ?_
      refine l1 (isp sl35 hp rfl rfl (by omega) (by omega)) ?_
      refine l1 (slall Try.underlying34 Try.sizeOf5 rfl) ?_
      refine lapp [_] [] oe el56 (by rw [List.append_nil]; rfl) rfl hown rfl (news := arr .u8 16 (h.tok i)) rfl (fun w' hw => (hm i hlt).kept hw.below hbl) (oneA rfl) (by decide) (by unfold maxLen; omega) (by omega) ?_
      intro g61 c61 o61 k61
      rw [← bv_aL, ← bv_app] at k61
      rw [List.append_nil]
      refine l1 (asgs rfl) ?_
      refine lnil ?_
      refine nblkN ?_
      refine nthen ?_
      refine creg ?_
      refine l1 (mvi rfl) ?_
      first | refine l1 (addn rfl rfl (ri (by omega) (by omega))) ?_ | refine l1 (add rfl rfl) ?_
      refine l1 (asgi rfl) ?_
      refine lnil ?_
      exact nI (i + 1, _, o61) ⟨(by show i + 1 ≤ h.tn; omega), own_re k61 (by show _ = B0 h ++ flatI (i + 1) _; rw [flatI_succ, List.append_assoc])⟩ (by show h.tn - (i + 1) < h.tn - i; omega) ⟨rfl, rfl, rfl, trivial⟩ (List.Sublist.refl _)
    · have hin : i = h.tn := by (have := df h4; omega)
      refine cexit ?_
      refine nthenE ?_
      refine nIE ?_
      refine nblkE ?_
      refine nthen ?_
      refine cseq ?_
      refine cseq ?_
      refine creg ?_
      refine l1 (asgi rfl) ?_
      refine lnil ?_
      refine nthen ?_
      refine cblock ?_
      refine cloopI (σ := Nat × Value × List Ent) (fun s => [(1, .pointer (some ⟨b1, 0, none⟩)), (3, s.2.1), (6, .int .i64 (s.1 : Int))]) (fun s => ([⟨b1, encH h, 37⟩] ++ (s.2.2))) (fun s => s.1 ≤ 6 ∧ OwnL 5 1 s.2.1 (B1 h ++ flatI s.1 (fun i => numB (u64N (h.knows i)))).length (bv (B1 h ++ flatI s.1 (fun i => numB (u64N (h.knows i))))) s.2.2) (fun s => 6 - s.1) (0, _, oe) ⟨Nat.zero_le _, own_re hown (by (have hie : i = h.tn := hin; subst hie; exact (List.append_nil _).symm))⟩ ⟨rfl, rfl, rfl, trivial⟩ (List.Sublist.refl _) ?_
      rintro ⟨i, v3, oe⟩ j hI; replace hI : i ≤ 6 ∧ OwnL 5 1 v3 (B1 h ++ flatI i (fun i => numB (u64N (h.knows i)))).length (bv (B1 h ++ flatI i (fun i => numB (u64N (h.knows i))))) oe := hI; obtain ⟨hi, hown⟩ := hI; obtain ⟨p3, c3, rfl⟩ := hown.form; obtain ⟨g3, rfl⟩ := own_pos hown (by unfold B1; rw [List.append_assoc]; exact B0_pos h _); have hx0 := B0_len h ht; have hx1 := T_len h i; have hx2 := T_len h h.tn; have hx3 := K_len h i; have hx4 := numB_len 64 (u64N (h.knows i)) (u64N_eq _).2; have hx5 : (B1 h ++ flatI i (fun i => numB (u64N (h.knows i)))).length ≤ 3000 := (by unfold B1 flatI at *; simp only [List.length_append] at *; omega)
      show WC _ _ _ (⟨b1, encH h, 37⟩ :: (oe)) _ _ (over j [(1, .pointer (some ⟨b1, 0, none⟩)), (3, .slice (some ⟨g3, 0, none⟩) (B1 h ++ flatI i (fun i => numB (u64N (h.knows i)))).length c3), (6, .int .i64 (i : Int))])
      refine cseq ?_
      refine cseq ?_
      refine creg ?_
      refine l1 (mvi rfl) ?_
      refine l1 (lss rfl rfl) ?_
      refine lnil ?_
      refine nthen ?_
      refine cif rfl (fun h5 => ?_) (fun h5 => ?_)
      · have hlt : i < 6 := by (have := dt h5; omega)
        refine cskip ?_
        refine nthen ?_
        refine cseq ?_
        refine cblock ?_
        refine creg ?_
        refine l1 (mvs rfl) ?_
        refine l1 (mvi rfl) ?_
        refine l1 (fa fa37_8 rfl) ?_
        refine l1 (ia ar23 rfl rfl (by first | omega | decide | (simp at *; omega)) (by first | omega | decide | (simp at *; omega))) ?_
        refine l1 (ldc 0 Try.isAgg22 rfl rfl (encH_know h hlt)) ?_
        refine lclm hb137 rfl (mc (show _ = Value.int .u64 ((u64N (h.knows i) : Nat) : Int) by rw [u64N_id (kh.k i hlt)]; rfl) mn) (fun w' hw => num_calls (u64N (h.knows i)) ((u64N_eq _).2) w') ?_
        rintro v71 H71 k71
        obtain ⟨p71, c71, rfl⟩ := k71.form
        obtain ⟨g71, rfl⟩ := own_pos k71 (numB_pos _)
        refine lapp [_] H71 oe el56 rfl rfl hown rfl (news := bv (numB (u64N (h.knows i)))) (by rw [bv_len, Nat.mul_one]) (fun w' hw => own_memg k71 hw (List.Sublist.cons _ (List.sublist_append_right _ _)) (numB_pos _)) (bv_one _) (numB_pos _) (by unfold maxLen; omega) (by omega) ?_
        intro g72 c72 o72 k72
        rw [← bv_app] at k72
        refine wl_sub (H' := ⟨b1, encH h, 37⟩ :: o72) (List.Sublist.cons_cons _ (List.sublist_append_left _ _)) ?_
        refine l1 (asgs rfl) ?_
        refine lnil ?_
        refine nblkN ?_
        refine nthen ?_
        refine creg ?_
        refine l1 (mvi rfl) ?_
        first | refine l1 (addn rfl rfl (ri (by omega) (by omega))) ?_ | refine l1 (add rfl rfl) ?_
        refine l1 (asgi rfl) ?_
        refine lnil ?_
        exact nI (i + 1, _, o72) ⟨(by show i + 1 ≤ 6; omega), own_re k72 (by show _ = B1 h ++ flatI (i + 1) _; rw [flatI_succ, List.append_assoc])⟩ (by show 6 - (i + 1) < 6 - i; omega) ⟨rfl, rfl, rfl, trivial⟩ (List.Sublist.refl _)
      · have hin6 : i = 6 := by (have := df h5; omega)
        subst hin6
        refine cexit ?_
        refine nthenE ?_
        refine nIE ?_
        refine nblkE ?_
        refine nthen ?_
        refine cseq ?_
        refine creg ?_
        refine l1 (mvs rfl) ?_
        refine l1 (fa fa37_9 rfl) ?_
        refine l1 (slall Try.underlying32 Try.sizeOf5 rfl) ?_
        refine lapp [_] [] oe el56 (by rw [List.append_nil]; rfl) rfl hown rfl (news := arr .u8 32 h.sum) rfl (fun w' hw => mem_part 60 32 (hw.mem (i := 0) rfl 0)) (oneA rfl) (by decide) (by unfold maxLen; omega) (by omega) ?_
        intro g76 c76 o76 k76
        rw [← bv_aL, ← bv_app] at k76
        rw [List.append_nil]
        refine l1 (asgs rfl) ?_
        refine lnil ?_
        refine nthen ?_
        refine cseq ?_
        refine creg ?_
        refine l1 (mvs rfl) ?_
        refine l1 (fa fa37_10 rfl) ?_
        refine l1 (ldc 0 Try.isAgg3 rfl rfl rfl) ?_
        refine l1 (cvi ⟨_, Try.underlying3⟩ Try.underlying22 rfl) ?_
        refine lclm hb137 rfl (mc (show _ = Value.int .u64 ((u64N h.size : Nat) : Int) by rw [(u64N_eq h.size).1]; rfl) mn) (fun w' hw => num_calls (u64N h.size) ((u64N_eq _).2) w') ?_
        rintro v81 H81 k81
        obtain ⟨p81, c81, rfl⟩ := k81.form
        obtain ⟨g81, rfl⟩ := own_pos k81 (numB_pos _)
        refine lapp [_] H81 o76 el56 rfl rfl k76 rfl (news := bv (numB (u64N h.size))) (by rw [bv_len, Nat.mul_one]) (fun w' hw => own_memg k81 hw (List.Sublist.cons _ (List.sublist_append_right _ _)) (numB_pos _)) (bv_one _) (numB_pos _) (by unfold maxLen; omega) (by omega) ?_
        intro g82 c82 o82 k82
        rw [← bv_app] at k82
        refine wl_sub (H' := ⟨b1, encH h, 37⟩ :: o82) (List.Sublist.cons_cons _ (List.sublist_append_left _ _)) ?_
        refine l1 (asg rfl) ?_
        refine lnil ?_
        refine nthen ?_
        refine cret ?_
        exact finM _ o82 (rv1 rfl (rvt rfl)) ⟨_, List.Perm.refl _, List.Sublist.cons _ (List.Sublist.refl _)⟩ (own_re k82 rfl)

theorem core_len (h : Hd) (ht : h.tn ≤ 20) : (coreBy h).length ≤ 3000 := by
  have e : coreBy h = B1 h ++ flatI 6 (fun i => numB (u64N (h.knows i))) ++ aL 32 h.sum ++ numB (u64N h.size) := rfl
  rw [e]
  unfold B1
  have h1 := B0_len h ht
  have h2 := T_len h h.tn
  have h3 := K_len h 6
  have h4 := numB_len 64 (u64N h.size) (u64N_eq _).2
  simp only [List.length_append, aL_len]
  omega
theorem by_no {h : Hd} (hf : (!rformedH h) = true) : hdBy h = [] := by unfold hdBy; rw [hf]; rfl
theorem by_yes {h : Hd} (hf : (!rformedH h) = false) : hdBy h = coreBy h ++ aL 32 h.code := by unfold hdBy; rw [hf]; rfl

theorem hdby_calls (h : Hd) (w : World) (hh : HdIn w h) (kh : HdOk h) : Calls Try.prog 88 #[.agg (encH h).toArray] w (RetM (fun v Hn => OwnL 5 1 v (hdBy h).length (bv (hdBy h)) Hn) w) := by
  refine fn_calls (n := 11) Try.func88 rfl rfl (lb rfl) ?_
  refine cseq ?_
  refine creg ?_
  refine lbxa rfl (fun b1 => ?_)
  refine l1 (asg rfl) ?_
  refine lnil ?_
  refine nthen ?_
  refine cseq ?_
  refine cseq ?_
  refine creg ?_
  refine l1 (ldw 0 Try.isAgg37 Try.sizeOf37 rfl rfl rfl) ?_
  refine l1 (cl hb77 rfl (mc rfl mn) (fun w hw => rformed_calls _ w (Sl.keptS hh hw) kh)) ?_
  refine l1 (nt rfl) ?_
  refine lnil ?_
  refine nthen ?_
  refine cif rfl (fun h1 => ?_) (fun h1 => ?_)
  · skip
    refine cseq ?_
    refine creg ?_
    refine l1 (asg rfl) ?_
    refine lnil ?_
    refine nthen ?_
    refine cret ?_
    refine nthenR ?_
    exact finM _ [] (rv1 rfl (rvt rfl)) ⟨[], List.Perm.refl _, List.nil_sublist _⟩ (by rw [by_no h1]; exact OwnL.nil 5 1)
  · have hfm : formedH h = true := by (have h2 := rformed_eq (x := h) kh.z; rw [← h2]; simpa using h1)
    have ht : h.tn ≤ 20 := Nat.le_trans (formed_tn hfm) (by decide)
    have hcl := core_len h ht
    refine cskip ?_
    refine nthen ?_
    refine cseq ?_
    refine cregH (fun x : List Ent => ⟨b1, encH h, 37⟩ :: x) 6 mo rfl ?_
    refine hq1 0 rfl (by kernel_rfl) (by kernel_rfl) (by kernel_rfl) (fun c a w h => h) (.inl ⟨_, rfl⟩) (fun w hw => ⟨[], hw⟩) (fun T => ldw 0 Try.isAgg37 Try.sizeOf37 rfl rfl rfl) ?_
    refine hq1 2 rfl (by kernel_rfl) (by kernel_rfl) (by kernel_rfl) (fun c a w h => h) (.inl ⟨_, rfl⟩) (fun w hw => ⟨[], hw⟩) (fun T => fa fa37_11 rfl) ?_
    refine hq1 3 rfl (by kernel_rfl) (by kernel_rfl) (by kernel_rfl) (fun c a w h => h) (.inl ⟨_, rfl⟩) (fun w hw => ⟨[], hw⟩) (fun T => slall Try.underlying32 Try.sizeOf5 rfl) ?_
    refine he 1 (by kernel_rfl) rfl ?_
    refine lclm hb119 rfl (mc rfl mn) (fun w' hw => core_bytes h w' (Sl.keptS hh hw) kh ht) ?_
    rintro v7 H7 k7
    obtain ⟨p7, c7, rfl⟩ := k7.form
    obtain ⟨g7, rfl⟩ := own_pos k7 (by unfold coreBy; simp only [List.length_append]; have := numB_pos (u64N h.size); omega)
    refine hnil (fun w hw => ⟨_, hw⟩) ?_
    refine he 4 (by kernel_rfl) rfl ?_
    refine lapp [_] [] H7 el56 (by rw [List.append_nil]; rfl) rfl k7 rfl (news := arr .u8 32 h.code) rfl (fun w' hw => mem_part 93 32 (hw.mem (i := 0) rfl 0)) (oneA rfl) (by decide) (by unfold maxLen; omega) (by omega) ?_
    intro g10 c10 o10 k10
    rw [← bv_aL, ← bv_app] at k10
    rw [List.append_nil]
    refine hnil (fun w hw => ⟨_, hw⟩) ?_
    refine hq1 5 rfl (by kernel_rfl) (by kernel_rfl) (by kernel_rfl) (fun c a w h => h) (.inr ⟨_, rfl⟩) (fun w hw => ⟨_, hw⟩) (fun T => asg rfl) ?_
    refine hend (by kernel_rfl) ?_
    refine nthen ?_
    refine cret ?_
    exact finM _ o10 (rv1 rfl (rvt rfl)) ⟨_, List.Perm.refl _, List.Sublist.cons _ (List.Sublist.refl _)⟩ (own_re k10 (by_yes h1).symm)
end Go.Proofs.Ytkdbjhlkahkobaa
/- bytes tell headers apart -/
namespace Go.Proofs.Ytkdbjhlkahkobaa
open Jal Go.RowKit
set_option maxRecDepth 100000
theorem numB_inj (x : Nat) : ∀ (y : Nat) (s t : List Int), numB x ++ s = numB y ++ t → x = y ∧ s = t := by
  induction x using Nat.strongRecOn with
  | _ x ih =>
    intro y s t h
    by_cases hx : 0 < x / 128
    · rw [numB_more hx] at h
      by_cases hy : 0 < y / 128
      · rw [numB_more hy] at h
        injection h with h1 h2
        obtain ⟨h3, h4⟩ := ih (x / 128) (by omega) (y / 128) s t h2
        refine ⟨?_, h4⟩
        have h5 : x % 128 = y % 128 := by omega
        omega
      · rw [numB_last hy] at h
        injection h with h1 h2
        omega
    · rw [numB_last hx] at h
      by_cases hy : 0 < y / 128
      · rw [numB_more hy] at h
        injection h with h1 h2
        omega
      · rw [numB_last hy] at h
        injection h with h1 h2
        exact ⟨by omega, h2⟩
theorem aL_inj {n : Nat} {f g : Nat → Int} {s t : List Int} (h : aL n f ++ s = aL n g ++ t) : eqA n f g = true ∧ s = t := by
  obtain ⟨h1, h2⟩ := List.append_inj h (by rw [aL_len, aL_len])
  refine ⟨eqA_iff.2 fun i hi => ?_, h2⟩
  have h3 : (aL n f)[i]? = (aL n g)[i]? := by rw [h1]
  unfold aL at h3
  rw [List.getElem?_map, List.getElem?_map, List.getElem?_range hi] at h3
  simpa using h3
theorem flatT_inj {f g : Nat → Nat → Int} : ∀ {n : Nat} {s t : List Int}, flatI n (fun i => aL 16 (f i)) ++ s = flatI n (fun i => aL 16 (g i)) ++ t → (∀ i, i < n → eqA 16 (f i) (g i) = true) ∧ s = t
  | 0, s, t, h => ⟨fun i hi => absurd hi (Nat.not_lt_zero i), h⟩
  | n + 1, s, t, h => by
    rw [flatI_succ, flatI_succ, List.append_assoc, List.append_assoc] at h
    obtain ⟨h1, h2⟩ := flatT_inj h
    obtain ⟨h3, h4⟩ := aL_inj h2
    refine ⟨fun i hi => ?_, h4⟩
    by_cases hin : i < n
    · exact h1 i hin
    · obtain rfl : i = n := by omega
      exact h3
theorem flat6 (f : Nat → List Int) : flatI 6 f = f 0 ++ (f 1 ++ (f 2 ++ (f 3 ++ (f 4 ++ (f 5 ++ []))))) := rfl
theorem u64N_inj {a b : Int} (ha : I64 a ∨ U64 a) (hb : I64 b ∨ U64 b) (hs : (I64 a ∧ I64 b) ∨ (U64 a ∧ U64 b)) (h : u64N a = u64N b) : a = b := by
  have h1 := (u64N_eq a).1
  have h2 := (u64N_eq b).1
  rw [h] at h1
  rw [h1] at h2
  simp only [IntKind.wrap, IntKind.signed, IntKind.bits] at h2
  unfold I64 U64 at hs
  simp at h2
  omega
theorem core_inj {a b : Hd} (ka : HdOk a) (kb : HdOk b) {s t : List Int} (h : coreBy a ++ aL 32 a.code ++ s = coreBy b ++ aL 32 b.code ++ t) : sameH a b = true := by
  unfold coreBy at h
  simp only [flat6, List.append_assoc, List.nil_append] at h
  obtain ⟨e1, h⟩ := numB_inj _ _ _ _ h
  obtain ⟨e2, h⟩ := numB_inj _ _ _ _ h
  obtain ⟨e3, h⟩ := aL_inj h
  obtain ⟨e4, h⟩ := numB_inj _ _ _ _ h
  simp only [List.cons_append, List.nil_append] at h
  injection h with e5 h
  obtain ⟨e6, h⟩ := numB_inj _ _ _ _ h
  obtain ⟨e7, h⟩ := aL_inj h
  obtain ⟨e8, h⟩ := numB_inj _ _ _ _ h
  rw [e8] at h
  obtain ⟨e9, h⟩ := flatT_inj h
  obtain ⟨k0, h⟩ := numB_inj _ _ _ _ h
  obtain ⟨k1, h⟩ := numB_inj _ _ _ _ h
  obtain ⟨k2, h⟩ := numB_inj _ _ _ _ h
  obtain ⟨k3, h⟩ := numB_inj _ _ _ _ h
  obtain ⟨k4, h⟩ := numB_inj _ _ _ _ h
  obtain ⟨k5, h⟩ := numB_inj _ _ _ _ h
  obtain ⟨e10, h⟩ := aL_inj h
  obtain ⟨e11, h⟩ := numB_inj _ _ _ _ h
  obtain ⟨e12, _⟩ := aL_inj h
  have iw := fun {x y : Int} (hx : I64 x) (hy : I64 y) (e : u64N x = u64N y) => u64N_inj (.inl hx) (.inl hy) (.inl ⟨hx, hy⟩) e
  have iu := fun {x y : Int} (hx : U64 x) (hy : U64 y) (e : u64N x = u64N y) => u64N_inj (.inr hx) (.inr hy) (.inr ⟨hx, hy⟩) e
  have hk : eqA 6 a.knows b.knows = true := eqA_iff.2 fun i hi => by
    match i, hi with
    | 0, _ => exact iu (ka.k 0 (by decide)) (kb.k 0 (by decide)) k0
    | 1, _ => exact iu (ka.k 1 (by decide)) (kb.k 1 (by decide)) k1
    | 2, _ => exact iu (ka.k 2 (by decide)) (kb.k 2 (by decide)) k2
    | 3, _ => exact iu (ka.k 3 (by decide)) (kb.k 3 (by decide)) k3
    | 4, _ => exact iu (ka.k 4 (by decide)) (kb.k 4 (by decide)) k4
    | 5, _ => exact iu (ka.k 5 (by decide)) (kb.k 5 (by decide)) k5
  have hc : (a.control == b.control) = true := by
    cases h1 : a.control <;> cases h2 : b.control <;> rw [h1, h2] at e5 <;> first | rfl | (exfalso; revert e5; decide)
  have ht : eqTok a.tn a.tok b.tn b.tok = true := eqTok_yes (by simp [e8]) (fun i hi => e9 i (by omega))
  unfold sameH
  rw [ht, iw ka.w kb.w e1, iu ka.s kb.s e2, e3, iw ka.e kb.e e4, hc, iu ka.t kb.t e6, e7, hk, e10, iw ka.z kb.z e11, e12]
  simp
theorem aL_eq {n : Nat} {f g : Nat → Int} (h : eqA n f g = true) : aL n f = aL n g := by
  unfold aL
  exact List.map_congr_left fun i hi => eqA_iff.1 h i (List.mem_range.1 hi)
theorem flatI_eq {f g : Nat → List Int} : ∀ {n : Nat}, (∀ i, i < n → f i = g i) → flatI n f = flatI n g
  | 0, _ => rfl
  | n + 1, h => by rw [flatI_succ, flatI_succ, flatI_eq (fun i hi => h i (by omega)), h n (by omega)]
theorem eqTok_f {n m : Nat} {t u : Nat → Nat → Int} (h : eqTok n t m u = true) : n = m ∧ ∀ i, i < n → eqA 16 (t i) (u i) = true := by
  unfold eqTok at h
  cases hd : decide ((n : Int) ≠ (m : Int)) with
  | true => rw [hd] at h; cases h
  | false =>
    rw [hd] at h
    exact ⟨by have := of_decide_eq_false hd; omega, fun i hi => List.all_eq_true.1 h i (List.mem_range.2 hi)⟩
theorem same_bytes {a b : Hd} (h : sameH a b = true) : coreBy a ++ aL 32 a.code = coreBy b ++ aL 32 b.code := by
  unfold sameH at h
  cases ht : eqTok a.tn a.tok b.tn b.tok with
  | false => rw [ht] at h; cases h
  | true =>
    rw [ht] at h
    obtain ⟨hn, htk⟩ := eqTok_f ht
    replace h : ((((((((((decide (a.writer = b.writer) && decide (a.seq = b.seq)) && eqA 32 a.prev b.prev) && decide (a.epoch = b.epoch)) && (a.control == b.control)) && decide (a.time = b.time)) && eqA 16 a.item b.item) && eqA 6 a.knows b.knows) && eqA 32 a.sum b.sum) && decide (a.size = b.size)) && eqA 32 a.code b.code) = true := h
    simp only [Bool.and_eq_true, decide_eq_true_eq, beq_iff_eq] at h
    obtain ⟨⟨⟨⟨⟨⟨⟨⟨⟨⟨h1, h2⟩, h3⟩, h4⟩, h5⟩, h6⟩, h7⟩, h8⟩, h9⟩, h10⟩, h11⟩ := h
    unfold coreBy
    rw [h1, h2, aL_eq h3, h4, h5, h6, aL_eq h7, hn, aL_eq h9, h10, aL_eq h11, flatI_eq (n := b.tn) (fun i hi => aL_eq (htk i (by omega))), flatI_eq (n := 6) (fun i hi => by rw [eqA_iff.1 h8 i hi])]
/-- of formed headers: the same bytes, the same header -/
theorem hdBy_same {a b : Hd} (ka : HdOk a) (kb : HdOk b) (fa : formedH a = true) (fb : formedH b = true) : (hdBy a == hdBy b) = sameH a b := by
  have ea : hdBy a = coreBy a ++ aL 32 a.code := by_yes (by rw [rformed_eq ka.z, fa]; rfl)
  have eb : hdBy b = coreBy b ++ aL 32 b.code := by_yes (by rw [rformed_eq kb.z, fb]; rfl)
  rw [ea, eb, Bool.eq_iff_iff, beq_iff_eq]
  exact ⟨fun h => core_inj ka kb (s := []) (t := []) (by rw [List.append_nil, List.append_nil]; exact h), same_bytes⟩
end Go.Proofs.Ytkdbjhlkahkobaa
