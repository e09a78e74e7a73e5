/- maps whose keys are numbers put together, kept below the base of a walk -/
import Derived.Test.YtkdbjhlkahkobaaMem2
import Derived.MapKept
namespace Jal
open Go Go.RowKit
def setB (w : World) (r : Nat) (o : Obj) : World := { w with heap := w.heap.setIfInBounds r o }
theorem setB_same {w : World} {r : Nat} {o : Obj} (h : r < w.heap.size) : (setB w r o).heap[r]? = some o := by simp [setB, h]
theorem setB_other {w : World} {r k : Nat} {o : Obj} (h : k ≠ r) : (setB w r o).heap[k]? = w.heap[k]? := by
  show (w.heap.setIfInBounds r o)[k]? = _
  rw [Array.getElem?_setIfInBounds_ne (fun e => h e.symm)]
theorem setB_size {w : World} {r : Nat} {o : Obj} : (setB w r o).heap.size = w.heap.size := by simp [setB]
/-- a block of the base's changed, in the base as in the world -/
theorem Sat.setB {w0 w : World} {H : List Ent} (h : Sat w0 H w) {r : Nat} (hr : r < w0.heap.size) (o : Obj) : Sat (setB w0 r o) H (setB w r o) := by
  refine ⟨⟨h.below.os, h.below.tape, h.below.output, by rw [setB_size, setB_size]; exact h.below.size, fun k hk => ?_⟩, fun e he => ⟨by rw [setB_size]; exact (h.own e he).1, ?_⟩, h.apart⟩
  · rw [setB_size] at hk
    by_cases hkr : k = r
    · subst hkr
      rw [setB_same hr, setB_same (Nat.lt_of_lt_of_le hr h.below.size)]
    · rw [setB_other hkr, setB_other hkr]
      exact h.below.block k hk
  · rw [setB_other (fun e1 => by have := (h.own e he).1; omega)]
    exact (h.own e he).2
structure KeyT (P : Program) (kt : TypeId) (κ : Type) (kv : κ → Value) (eqk : κ → κ → Bool) : Prop where
  und : ∃ d, P.underlying kt = some d ∧ ∀ a b, Instr.sameNow d (kv a) (kv b) = none
  chk : ∀ e a w, (Instr.checkKey e 10000 kt (kv a)).run P w = .ok () w
  eq : ∀ a b w, (Op.equal kt (kv a) (kv b)).run P w = .ok (eqk a b) w
  same : ∀ a b, eqk a b = true → kv a = kv b
  bits : ∀ a, Instr.sameBits 10000 (kv a) (kv a) = true
section
variable {κ : Type} (kv : κ → Value) (eqk : κ → κ → Bool)
def ents : List (κ × Value) → Nat → List MapEntry
  | [], _ => []
  | (a, v) :: M, i => { key := kv a, val := v, born := i } :: ents M (i + 1)
def mob (M : List (κ × Value)) : Obj := .map (ents kv M 0).toArray M.length
def findM (k : κ) : List (κ × Value) → Nat → Option (Nat × Value)
  | [], _ => none
  | (a, v) :: M, i => bif eqk k a then some (i, v) else findM k M (i + 1)
def valM (k : κ) (M : List (κ × Value)) (z : Value) : Value := match findM eqk k M 0 with | some (_, v) => v | none => z
def idxM (k : κ) (M : List (κ × Value)) : Nat := match findM eqk k M 0 with | some (i, _) => i | none => M.length
def putM (k : κ) (M : List (κ × Value)) (z : Value) : List (κ × Value) := match findM eqk k M 0 with | some _ => M | none => M ++ [(k, z)]
def setM (M : List (κ × Value)) (i : Nat) (v : Value) : List (κ × Value) := M.modify i (fun p => (p.1, v))
theorem ents_len : ∀ (M : List (κ × Value)) (i : Nat), (ents kv M i).length = M.length
  | [], _ => rfl
  | _ :: M, i => by simp [ents, ents_len M (i + 1)]
theorem ents_app : ∀ (M N : List (κ × Value)) (i : Nat), ents kv (M ++ N) i = ents kv M i ++ ents kv N (i + M.length)
  | [], _, _ => rfl
  | (a, v) :: M, N, i => by
    show _ :: ents kv (M ++ N) (i + 1) = _ :: (ents kv M (i + 1) ++ _)
    rw [ents_app M N (i + 1), List.length_cons, show i + 1 + M.length = i + (M.length + 1) by omega]
theorem ents_get : ∀ (M : List (κ × Value)) (i j : Nat), (ents kv M i)[j]? = (M[j]?).map (fun p => { key := kv p.1, val := p.2, born := i + j })
  | [], _, _ => by simp [ents]
  | (a, v) :: M, i, 0 => by simp [ents]
  | (a, v) :: M, i, j + 1 => by
    show (ents kv M (i + 1))[j]? = _
    rw [ents_get M (i + 1) j, List.getElem?_cons_succ, show i + 1 + j = i + (j + 1) by omega]
theorem findM_lt {k : κ} : ∀ {M : List (κ × Value)} {i j : Nat} {v : Value}, findM eqk k M i = some (j, v) → ∃ a, i ≤ j ∧ M[j - i]? = some (a, v) ∧ eqk k a = true
  | [], _, _, _, h => by cases h
  | (a, v) :: M, i, j, v', h => by
    unfold findM at h
    cases hq : eqk k a with
    | true =>
      rw [hq] at h
      cases h
      exact ⟨a, Nat.le_refl _, by simp, hq⟩
    | false =>
      rw [hq] at h
      obtain ⟨a', h1, h2, h3⟩ := findM_lt (M := M) h
      exact ⟨a', by omega, by rw [show j - i = (j - (i + 1)) + 1 by omega, List.getElem?_cons_succ]; exact h2, h3⟩
theorem idxM_lt {k : κ} {M : List (κ × Value)} {z : Value} : idxM eqk k M < (putM eqk k M z).length := by
  unfold idxM putM
  cases h : findM eqk k M 0 with
  | none => simp
  | some p =>
    obtain ⟨a, h1, h2, h3⟩ := findM_lt eqk (j := p.1) (v := p.2) h
    exact (List.getElem?_eq_some_iff.1 h2).1
end
section
variable {P : Program} {κ : Type} {kv : κ → Value} {eqk : κ → κ → Bool} {kt : TypeId}
theorem run_findAsking (K : KeyT P kt κ kv eqk) (k : κ) (w : World) : ∀ (M : List (κ × Value)) (s i : Nat), (Instr.findAsking kt (kv k) (ents kv M s) i).run P w = .ok (findM eqk k M i) w
  | [], _, _ => rfl
  | (a, v) :: M, s, i => by
    unfold ents Instr.findAsking findM
    rw [Sem.run_bind, K.eq k a w]
    simp only [Result.andThen_ok]
    cases eqk k a with
    | true => rfl
    | false => exact run_findAsking K k w M (s + 1) (i + 1)
theorem run_findKey (K : KeyT P kt κ kv eqk) (k : κ) (M : List (κ × Value)) (w : World) : (Instr.findKey kt (kv k) (ents kv M 0)).run P w = .ok (findM eqk k M 0) w := by
  obtain ⟨d, hd, hs⟩ := K.und
  unfold Instr.findKey
  rw [Sem.run_bind, run_underlying hd]
  simp only [Result.andThen_ok]
  cases M with
  | nil => rfl
  | cons p M =>
    have : Instr.findNow d (kv k) (ents kv (p :: M) 0) 0 = none := by
      show (match Instr.sameNow d (kv k) (kv p.1) with | some true => _ | some false => _ | none => none) = none
      rw [hs]
    rw [this]
    exact run_findAsking K k w (p :: M) 0 0
end
section
variable {P : Program} {C : World → Prop} {ρ : Operand → Value} {d : Option Tmp} {ty : TypeId} {pos : String} {af : Array Edge} {g : Option (Nat × Bool)} {κ : Type} {kv : κ → Value} {eqk : κ → κ → Bool} {kt : TypeId}
theorem run_lookup (K : KeyT P kt κ kv eqk) {t e : TypeId} {r : Nat} {k : κ} {M : List (κ × Value)} {z : Value} {w : World} (ht : P.underlying t = some (.map kt e)) (hz : ∀ w, (zeroValue e).run P w = .ok z w)
    (ho : w.heap[r]? = some (mob kv M)) : (Instr.lookup t (.map (some r)) (kv k) false).run P w = .ok (valM eqk k M z) w := by
  have h1 := MapKept.run_getObj_map (P := P) ho
  have h2 := fun e => K.chk e k w
  have h3 := run_findKey K k M w
  unfold Instr.lookup
  simp only [Sem.run_bind, run_underlying ht, Result.andThen_ok, h1, h2, Sem.run_pure, h3]
  unfold valM
  cases findM eqk k M 0 with
  | none => simp [hz]
  | some p => obtain ⟨i, v⟩ := p; simp
theorem lkp (K : KeyT P kt κ kv eqk) {t e : TypeId} {m x : Operand} {r : Nat} {k : κ} {M : List (κ × Value)} {z : Value} (ht : P.underlying t = some (.map kt e)) (hz : ∀ w, (zeroValue e).run P w = .ok z w)
    (hm : ρ m = .map (some r)) (hx : ρ x = kv k) (ho : ∀ w, C w → w.heap[r]? = some (mob kv M)) : Qu P C ρ ⟨d, .lookup t m x false, ty, pos, af, g⟩ (valM eqk k M z) :=
  qu_of_run fun w hw => by
    have := run_lookup K (k := k) ht hz (ho w hw)
    simp [execOp, hm, hx, this]
end
section
variable {P : Program} {κ : Type} {kv : κ → Value} {eqk : κ → κ → Bool} {kt : TypeId}
theorem ents_modify_key (M : List (κ × Value)) {i : Nat} {k a : κ} {v : Value} (hi : M[i]? = some (a, v)) (hs : kv a = kv k) : (ents kv M 0).toArray.modify i (fun e => { e with key := kv k }) = (ents kv M 0).toArray := by
  apply Array.ext_getElem?
  intro j
  rw [Array.getElem?_modify]
  by_cases hj : i = j
  · subst hj
    rw [if_pos rfl]
    simp only [List.getElem?_toArray, ents_get, hi, Option.map_some, hs]
  · rw [if_neg hj]
theorem ents_set (M : List (κ × Value)) (i : Nat) (v : Value) : (ents kv M 0).toArray.modify i (fun e => { e with val := v }) = (ents kv (setM M i v) 0).toArray := by
  apply Array.ext_getElem?
  intro j
  rw [Array.getElem?_modify]
  simp only [List.getElem?_toArray, ents_get, setM, List.getElem?_modify]
  by_cases hj : i = j
  · subst hj
    rw [if_pos rfl]
    cases M[i]? <;> simp
  · rw [if_neg hj]
    cases M[j]? <;> simp [hj]
theorem run_mapEntry (K : KeyT P kt κ kv eqk) {t e : TypeId} {r : Nat} {k : κ} {M : List (κ × Value)} {z : Value} {w : World} (ht : P.underlying t = some (.map kt e)) (hz : ∀ w, (zeroValue e).run P w = .ok z w)
    (ho : w.heap[r]? = some (mob kv M)) : (Instr.mapEntry t (.map (some r)) (kv k)).run P w = .ok (.tuple #[valM eqk k M z, goInt (idxM eqk k M)]) (setB w r (mob kv (putM eqk k M z))) := by
  have h1 := MapKept.run_getObj_map (P := P) ho
  have h2 := fun e => K.chk e k w
  have h3 := run_findKey K k M w
  have h4 := fun o => MapKept.run_setObj_map (P := P) (w := w) o ho
  unfold Instr.mapEntry
  simp only [Sem.run_bind, run_underlying ht, Result.andThen_ok, h1, h2, Sem.run_pure, h3]
  unfold valM idxM putM
  cases hf : findM eqk k M 0 with
  | none =>
    simp only [Sem.run_bind, hz, Result.andThen_ok, h4, Sem.run_pure]
    show Result.ok _ (setB w r _) = Result.ok _ (setB w r _)
    congr 2
    unfold mob
    congr 1
    · rw [ents_app]
      simp [ents]
    · simp
  | some p =>
    obtain ⟨i, v⟩ := p
    obtain ⟨a, h5, h6, h7⟩ := findM_lt eqk hf
    have h8 : (ents kv M 0)[i]? = some { key := kv a, val := v, born := i } := by
      rw [ents_get, show i = i - 0 by omega, h6]; simp
    have h9 : kv a = kv k := (K.same k a h7).symm
    have h10 : (Instr.keyThatStays (kv a) (kv k)).run P w = .ok (kv k) w := by
      unfold Instr.keyThatStays
      rw [h9, if_pos (K.bits k)]; rfl
    have h11 : ((((ents kv M 0).toArray[i]?).map (·.key)).getD (kv k)) = kv a := by
      rw [List.getElem?_toArray, h8]; rfl
    have h12 : ((((ents kv M 0).toArray[i]?).map (fun x => (x.born : Int))).getD 0) = (i : Int) := by
      rw [List.getElem?_toArray, h8]; rfl
    have h13 : ((((((ents kv M 0).toArray[i]?).map (·.born)).getD 0 : Nat)) : Int) = (i : Int) := by
      rw [List.getElem?_toArray, h8]; rfl
    simp only [Sem.run_bind, h11, h12, h13, h10, Result.andThen_ok, h4, Sem.run_pure]
    show Result.ok _ (setB w r _) = Result.ok _ (setB w r _)
    rw [ents_modify_key M (by simpa using h6) h9]
    rfl
theorem find_born (M : List (κ × Value)) {i : Nat} (hi : i < M.length) : ((ents kv M 0).toArray.findIdx? (fun e => (e.born : Int) == (i : Int))) = some i := by
  rw [List.findIdx?_toArray, List.findIdx?_eq_some_iff_getElem]
  have hl : i < (ents kv M 0).length := by rw [ents_len]; exact hi
  have hg : ∀ j (h : j < (ents kv M 0).length), ((ents kv M 0)[j]).born = j := by
    intro j h
    have h1 := ents_get kv M 0 j
    rw [List.getElem?_eq_getElem h] at h1
    have h2 : j < M.length := by rw [ents_len] at h; exact h
    rw [List.getElem?_eq_getElem h2] at h1
    simp only [Option.map_some, Option.some.injEq] at h1
    rw [h1]; simp
  refine ⟨hl, by rw [hg i hl]; simp, fun j hj => ?_⟩
  rw [hg j (by omega)]
  simp; omega
theorem run_entryStore {t : TypeId} {r i : Nat} {M : List (κ × Value)} {v : Value} {w : World} (ho : w.heap[r]? = some (mob kv M)) (hi : i < M.length) : (Instr.entryStore t (.map (some r)) (goInt i) v).run P w = .ok () (setB w r (mob kv (setM M i v))) := by
  have h1 := MapKept.run_getObj_map (P := P) ho
  have h4 := fun o => MapKept.run_setObj_map (P := P) (w := w) o ho
  have ha : (asInt (.int .i64 (i : Int))).run P w = .ok (i : Int) w := by simp [asInt, asIntOf]
  unfold Instr.entryStore
  simp only [Sem.run_bind, h1, Result.andThen_ok, goInt, ha, Sem.run_pure]
  rw [find_born M hi]
  simp only [h4]
  show Result.ok _ (setB w r _) = Result.ok _ (setB w r _)
  rw [ents_set]
  unfold mob setM
  simp
end
section
variable {P : Program} {ops : Array Oper} {Q : Exit → Act → World → Prop} {w0 : World} {H : List Ent} {rest : List Oper} {n : Nat} {F : Nat → Value} {d : Nat} {ty : TypeId} {pos : String} {af : Array Edge} {κ : Type} {kv : κ → Value} {eqk : κ → κ → Bool} {kt : TypeId}
theorem lme (K : KeyT P kt κ kv eqk) {t e : TypeId} {m x : Operand} {r : Nat} {k : κ} {M : List (κ × Value)} {z : Value} (ht : P.underlying t = some (.map kt e)) (hz : ∀ w, (zeroValue e).run P w = .ok z w)
    (hm : ev n F m = .map (some r)) (hx : ev n F x = kv k) (hr : r < w0.heap.size) (ho : w0.heap[r]? = some (mob kv M))
    (h : WL P ops Q (setB w0 r (mob kv (putM eqk k M z))) H rest n (upd F d (.tuple #[valM eqk k M z, goInt (idxM eqk k M)]))) :
    WL P ops Q w0 H (⟨some d, .mapEntry t m x, ty, pos, af, none⟩ :: rest) n F := fun w hw => wpList_plain rfl fun K' hK => by
  have hrun := run_mapEntry K (k := k) ht hz ((hw.below.block r hr).trans ho)
  have hr' : (execOp (fr n F).eval ⟨some d, .mapEntry t m x, ty, pos, af, none⟩).run P w = .ok (.value (.tuple #[valM eqk k M z, goInt (idxM eqk k M)])) (setB w r (mob kv (putM eqk k M z))) := by
    simp [execOp, fr_eval, hm, hx, hrun]
  unfold Oper.wp
  rw [hr']
  exact hK _ _ (by rw [fr_put]; exact h _ (hw.setB hr _))
theorem lesm {t : TypeId} {m s x : Operand} {r i : Nat} {M : List (κ × Value)} {v : Value}
    (hm : ev n F m = .map (some r)) (hs : ev n F s = goInt i) (hx : ev n F x = v) (hr : r < w0.heap.size) (ho : w0.heap[r]? = some (mob kv M)) (hi : i < M.length)
    (h : WL P ops Q (setB w0 r (mob kv (setM M i v))) H rest n F) :
    WL P ops Q w0 H (⟨none, .entryStore t m s x, ty, pos, af, none⟩ :: rest) n F := fun w hw => wpList_plain rfl fun K' hK => by
  have hrun := run_entryStore (P := P) (t := t) (v := v) ((hw.below.block r hr).trans ho) hi
  have hr' : (execOp (fr n F).eval ⟨none, .entryStore t m s x, ty, pos, af, none⟩).run P w = .ok .skip (setB w r (mob kv (setM M i v))) := by
    simp [execOp, fr_eval, hm, hs, hx, hrun]
  unfold Oper.wp
  rw [hr']
  exact hK _ _ (by first | (rw [fr_put_none]; exact h _ (hw.setB hr _)) | exact h _ (hw.setB hr _))
/-- a map made: the walk goes on above it -/
theorem lmkm (kv : κ → Value) {t : TypeId} (h : ∀ w1 r, Below w0.heap.size w0 w1 → w0.heap.size ≤ r → r < w1.heap.size → w1.heap[r]? = some (mob kv []) → WL P ops Q w1 [] rest n (upd F d (.map (some r)))) :
    WL P ops Q w0 [] (⟨some d, .makeMap t none, ty, pos, af, none⟩ :: rest) n F := fun w hw => wpList_plain rfl fun K' hK => by
  have hr' : (execOp (fr n F).eval ⟨some d, .makeMap t none, ty, pos, af, none⟩).run P w = .ok (.value (.map (some w.heap.size))) (w.alloc (.map #[] 0)) := by
    simp [execOp, Instr.makeMap, newObj, Sem.run]
  unfold Oper.wp
  rw [hr']
  refine hK _ _ ?_
  rw [fr_put]
  exact h _ w.heap.size (hw.below.trans ((Below.refl _ _).alloc hw.below.size _)) hw.below.size (by show w.heap.size < (w.heap.push _).size; rw [Array.size_push]; omega) (by show (w.heap.push _)[w.heap.size]? = _; rw [Array.getElem?_push_size]; rfl) _ (Sat.start _)
end
section
variable {P : Program} {Q : Exit → Act → World → Prop} {w0 : World} {H : List Ent} {x : Code} {n : Nat} {F : Nat → Value}
/-- a loop whose base changes from round to round -/
def IQB {σ : Type} (B : σ → World) (n : Nat) (ov : σ → List (Nat × Value)) (Hs : σ → List Ent) (I : σ → Prop) (μ : σ → Nat) (s : σ) : Act → World → Prop :=
  fun a w => ∃ s' j, I s' ∧ μ s' < μ s ∧ a = fr n (over j (ov s')) ∧ Sat (B s') (Hs s') w
theorem cloopB {σ : Type} (B : σ → World) (ov : σ → List (Nat × Value)) (Hs : σ → List Ent) (I : σ → Prop) (μ : σ → Nat)
    (s : σ) (hB : B s = w0) (hI : I s) (hF : AllEq F (ov s)) (hH : (Hs s).Sublist H)
    (round : ∀ s j, I s → WC P (Exit.then (IQB B n ov Hs I μ s) Q) (B s) (Hs s) x n (over j (ov s))) : WC P Q w0 H (.loop x) n F := by
  have key : ∀ m s j w, μ s < m → I s → Sat (B s) (Hs s) w → Code.rounds P x Q m (fr n (over j (ov s))) w := by
    intro m
    induction m with
    | zero => intro s j w hm; omega
    | succ m ih =>
      intro s j w hm hI hw
      refine Code.wp_mono (fun e a w q => ?_) (round s j hI w hw)
      cases e <;> first | exact q | skip
      obtain ⟨s', j', h1, h2, h3, h4⟩ := q
      subst h3
      exact ih s' j' w (by omega) h1 h4
  refine cloopN (μ s + 1) fun w hw => ?_
  have := key (μ s + 1) s F w (by omega) hI (by rw [hB]; exact hw.sub hH)
  rwa [over_same hF] at this
theorem nIB {σ : Type} {B : σ → World} {ov : σ → List (Nat × Value)} {Hs : σ → List Ent} {I : σ → Prop} {μ : σ → Nat} {s : σ} (s' : σ) (hB : B s' = w0) (hI : I s') (hμ : μ s' < μ s) (hF : AllEq F (ov s'))
    (hH : (Hs s').Sublist H) : NQ (Exit.then (IQB B n ov Hs I μ s) Q) w0 H .normal n F := fun w hw =>
  ⟨s', F, hI, hμ, by rw [over_same hF], by rw [hB]; exact hw.sub hH⟩
/-- the end of a function, by what it is to show -/
theorem finB {fn : Func} {R : Ending → World → Prop} (v : Value) (hr : ∀ w, Sat w0 H w → (results fn (fr n F).tmps).run P w = .ok v w) (hR : ∀ w, Sat w0 H w → R (.returned v) w) :
    NQ (bodyPost P fn R) w0 H .ret n F := fun w hw => ⟨rfl, v, hr w hw, hR w hw⟩
end
theorem lkpv {P : Program} {C : World → Prop} {ρ : Operand → Value} {d : Option Tmp} {ty : TypeId} {pos : String} {af : Array Edge} {g : Option (Nat × Bool)} {κ : Type} {kv : κ → Value} {eqk : κ → κ → Bool} {kt : TypeId}
    (K : KeyT P kt κ kv eqk) {t e : TypeId} {m x : Operand} {r : Nat} {k : κ} {M : List (κ × Value)} {z v : Value} (ht : P.underlying t = some (.map kt e)) (hz : ∀ w, (zeroValue e).run P w = .ok z w)
    (hm : ρ m = .map (some r)) (hx : ρ x = kv k) (ho : ∀ w, C w → w.heap[r]? = some (mob kv M)) (hv : valM eqk k M z = v) : Qu P C ρ ⟨d, .lookup t m x false, ty, pos, af, g⟩ v := by
  subst hv; exact lkp K ht hz hm hx ho
theorem setB_setB {w : World} {r : Nat} {a b : Obj} : setB (setB w r a) r b = setB w r b := by
  unfold setB
  simp
end Jal
