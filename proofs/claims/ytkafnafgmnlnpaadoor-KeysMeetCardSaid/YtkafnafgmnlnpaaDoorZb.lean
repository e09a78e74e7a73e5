/- several texts of ours, joined: Any, Tail, Held, Byt, Opx, Pln, Ro, Prt, Dec, Ea, Dt, Ty -/
import Derived.Test.YtkafnafgmnlnpaaDoorZa
import Derived.Orders
import Derived.Still
import Derived.Deep.Quiet
import Derived.StillTail
import Derived.OrdersHeld
import Derived.Lib.BytesEntry
import Derived.Lib.ConvBytes
import Derived.Laws.CopyRow
import Derived.Test.YtkafnafgmnlnpaaDoorRows
import Derived.ProofKit
import Derived.LaidMore
import Derived.OpenShut
import Derived.Deep.Slices
import Derived.ShutString
import Derived.ChangeOld
import Derived.Carry
import Derived.Test.YtkafnafgmnlnpaaDoorProg
import Derived.ChangeKeysEq
import Derived.KernelRfl
/- a region that draws its order, some of whose operations change our own memory: one walk in the order of the text serves every order -/
namespace Jal
open Go Go.RowKit
section
variable {P : Program} {ops : Array Oper} {md : Region.Mode} {Y : Nat → Oper → Value → Act → Prop} {Q : Act → Prop}

/-- operation i yields a value that the law Y knows -/
def oE (ops : Array Oper) (Y : Nat → Oper → Value → Act → Prop) (i : Nat) (K : Act → Prop) (a : Act) : Prop :=
  match ops[i]? with
  | none => K a
  | some o => ∃ v, Y i o v a ∧ K (a.put o.dst v)

def wE (md : Region.Mode) (ops : Array Oper) (Y : Nat → Oper → Value → Act → Prop) (Q : Act → Prop) : Nat → Array Bool → Act → Prop
  | 0, listed, a => Region.ready md ops listed = [] ∧ Q a
  | fuel + 1, listed, a =>
    (Region.ready md ops listed = [] → Q a) ∧
    ∀ i ∈ Region.ready md ops listed, oE ops Y i (wE md ops Y Q fuel (listed.setIfInBounds i true)) a

/-- the walk in the order of the text -/
def wT (ops : Array Oper) (Y : Nat → Oper → Value → Act → Prop) (Q : Act → Prop) : Nat → List Oper → Act → Prop
  | _, [], a => Q a
  | k, o :: rest, a => ∃ v, Y k o v a ∧ wT ops Y Q (k + 1) rest (a.put o.dst v)

/-- what Y says of an operation hangs on what the operation looks at alone -/
def Fit (ops : Array Oper) (Y : Nat → Oper → Value → Act → Prop) : Prop :=
  ∀ i o v a d u, ops[i]? = some o → (∀ x, d = some x → x ∉ o.looksAt ops) → (Y i o v (a.put d u) ↔ Y i o v a)

theorem oE_mono {i : Nat} {a : Act} {K K' : Act → Prop} (h : ∀ a, K a → K' a) (hh : oE ops Y i K a) : oE ops Y i K' a := by
  unfold oE at *
  split
  · exact h _ (by simpa [*] using hh)
  · rename_i o ho
    simp only [ho] at hh
    obtain ⟨v, h1, h2⟩ := hh
    exact ⟨v, h1, h _ h2⟩

theorem oE_put (hF : Fit ops Y) {i j : Nat} {oi oj : Oper} {v : Value} (hi : ops[i]? = some oi) (hj : ops[j]? = some oj) (hap : oi.apart ops oj = true) {K : Act → Prop} {a : Act}
    (hy : Y i oi v a) (h : oE ops Y j K (a.put oi.dst v)) : oE ops Y j (fun a' => Y i oi v a' ∧ K (a'.put oi.dst v)) a := by
  obtain ⟨h1, h2, h3⟩ := Oper.apart_spec hap
  unfold oE at h ⊢
  simp only [hj] at h ⊢
  obtain ⟨u, hu, hn⟩ := h
  refine ⟨u, (hF j oj u a _ v hj h1).1 hu, (hF i oi v a _ u hi h3).2 hy, ?_⟩
  rw [← Act.put_comm a v u h2]; exact hn

theorem wE_first (hF : Fit ops Y) {i : Nat} {oi : Oper} {v : Value} (hi : ops[i]? = some oi) :
    ∀ (fuel : Nat) (listed : Array Bool) (a : Act),
      (∀ j oj, ops[j]? = some oj → j ≠ i → listed.getD j true = false → (∀ e ∈ oj.after, Region.binds md e = true → e.on ≠ i) → oi.apart ops oj = true) →
      i ∈ Region.ready md ops listed → Y i oi v a →
      wE md ops Y Q fuel (listed.setIfInBounds i true) (a.put oi.dst v) → wE md ops Y Q (fuel + 1) listed a := by
  intro fuel
  induction fuel with
  | zero =>
    intro listed a _ hr hy H
    refine ⟨fun h => (by rw [h] at hr; cases hr), fun j hj => ?_⟩
    by_cases hji : j = i
    · subst hji; unfold oE; simp only [hi]; exact ⟨v, hy, H⟩
    · have := ready_mono hj hji
      rw [H.1] at this
      cases this
  | succ fuel ih =>
    intro listed a hfree hr hy H
    refine ⟨fun h => (by rw [h] at hr; cases hr), fun j hj => ?_⟩
    by_cases hji : j = i
    · subst hji; unfold oE; simp only [hi]; exact ⟨v, hy, H⟩
    · have h1 := H.2 j (ready_mono hj hji)
      obtain ⟨hjun, oj, hoj, hall⟩ := mem_ready.1 hj
      have hnot : ∀ e ∈ oj.after, Region.binds md e = true → e.on ≠ i := fun e he hb heq => by
        have h1 := hall e he hb
        have h0 := (mem_ready.1 hr).1
        rw [heq] at h1
        rcases Nat.lt_or_ge i listed.size with h' | h'
        · simp [h'] at h0 h1; rw [h0] at h1; cases h1
        · simp [Array.getElem?_eq_none h'] at h1
      have h2 := oE_put hF hi hoj (hfree j oj hoj hji hjun hnot) hy h1
      have hfree' : ∀ k ok, ops[k]? = some ok → k ≠ i → (listed.setIfInBounds j true).getD k true = false →
          (∀ e ∈ ok.after, Region.binds md e = true → e.on ≠ i) → oi.apart ops ok = true := fun k ok hk hki hun hno => by
        refine hfree k ok hk hki ?_ hno
        by_cases hjk : j = k
        · subst hjk; exact hjun
        · rw [getD_set_ne true hjk] at hun; exact hun
      refine oE_mono (fun a' h3 => ih (listed.setIfInBounds j true) a' hfree' (ready_mono hr (Ne.symm hji)) h3.1 ?_) h2
      rw [Array.setIfInBounds_comm _ _ hji]
      exact h3.2

theorem wE_lex (hF : Fit ops Y) : ∀ (l : List Oper) (k : Nat) (listed : Array Bool) (a : Act), (∀ j, l[j]? = ops[k + j]?) →
    Region.lexFrom md ops l.length k listed = true → wT ops Y Q k l a → wE md ops Y Q l.length listed a
  | [], _, _, _, _, hB, h => ⟨by simpa [Region.lexFrom] using hB, h⟩
  | o :: l, k, listed, a, hl, hB, h => by
    have h0 : ops[k]? = some o := by simpa using (hl 0).symm
    simp only [List.length_cons, Region.lexFrom, Bool.and_eq_true] at hB
    obtain ⟨⟨hr, hf⟩, hB'⟩ := hB
    obtain ⟨v, hy, hK⟩ := h
    exact wE_first hF h0 l.length listed a (Region.free_spec h0 hf) (by simpa using hr) hy
      (wE_lex hF l (k + 1) _ _ (fun j => by have := hl (j + 1); simpa [Nat.add_assoc, Nat.add_comm 1 j] using this) hB' hK)

/-- from the walk to every order: R ties what is seen to what is -/
theorem wpAny_of_wE {Q' : Exit → Act → World → Prop} (R : Array Bool → Act → Act → World → Prop)
    (hQ : ∀ listed a0 a w, Region.ready md ops listed = [] → R listed a0 a w → Q a0 → Q' .normal a w)
    (hS : ∀ listed a0 a w i o v (K : Act → World → Prop), i ∈ Region.ready md ops listed → ops[i]? = some o → R listed a0 a w → Y i o v a0 →
      (∀ a' w', R (listed.setIfInBounds i true) (a0.put o.dst v) a' w' → K a' w') → wpOp P ops Q' i K a w) :
    ∀ (fuel : Nat) (listed : Array Bool) (a0 a : Act) (w : World), R listed a0 a w → wE md ops Y Q fuel listed a0 → wpAny P md ops Q' fuel listed a w
  | 0, _, _, _, _, hR, h => ⟨h.1, hQ _ _ _ _ h.1 hR h.2⟩
  | fuel + 1, listed, a0, a, w, hR, h => by
    refine ⟨fun h0 => hQ _ _ _ _ h0 hR (h.1 h0), fun i hi => ?_⟩
    have h1 := h.2 i hi
    obtain ⟨_, o, ho, _⟩ := mem_ready.1 hi
    unfold oE at h1
    simp only [ho] at h1
    obtain ⟨v, hy, hK⟩ := h1
    exact hS listed a0 a w i o v _ hi ho hR hy fun a' w' hR' => wpAny_of_wE R hQ hS fuel _ _ a' w' hR' hK

end
theorem all_listed {P : Program} {ops : Array Oper} {md : Region.Mode} {listed : Array Bool} (hb : ∀ (i : Nat) (o : Oper), ops[i]? = some o → ∀ e ∈ o.after, Region.binds md e = true → e.on < i) (hz : listed.size = ops.size) (h : Region.ready md ops listed = []) :
    ∀ i, i < ops.size → listed.getD i false = true := by
  intro i
  induction i using Nat.strongRecOn with
  | _ i ih =>
    intro hi
    cases hc : listed.getD i false with
    | true => rfl
    | false =>
      exfalso
      have ho : ops[i]? = some ops[i] := by simp [hi]
      have hr : i ∈ Region.ready md ops listed := by
        refine mem_ready.2 ⟨?_, ops[i], ho, fun e he hbd => ih e.on (hb i _ ho e he hbd) (Nat.lt_trans (hb i _ ho e he hbd) hi)⟩
        have hil : i < listed.size := by omega
        simp [hil] at hc ⊢
        exact hc
      rw [h] at hr
      cases hr

/-- one variable made in the region: its alloc, its store -/
structure Eff where
  ia : Nat
  d : Nat
  t : TypeId
  zs : List Value
  is : Nat
  x : Operand
  vs : List Value

def putL : List (Nat × Value) → Act → Act
  | [], a => a
  | p :: L, a => (putL L a).put (some p.1) p.2

theorem putL_put : ∀ (L : List (Nat × Value)) (a : Act) (d : Option Nat) (v : Value), (∀ p ∈ L, d ≠ some p.1) → putL L (a.put d v) = (putL L a).put d v
  | [], _, _, _, _ => rfl
  | p :: L, a, d, v, h => by
    show (putL L (a.put d v)).put (some p.1) p.2 = _
    rw [putL_put L a d v (fun q hq => h q (by simp [hq]))]
    exact Act.put_comm _ _ _ (fun x hx hc => h p (by simp) (by rw [hx, hc]))
theorem putL_exec {ops : Array Oper} {o : Oper} (hs : ∀ cs b, o.op ≠ .select cs b) : ∀ (L : List (Nat × Value)) (a : Act), (∀ p ∈ L, p.1 ∉ o.looksAt ops) → execOp (putL L a).eval o = execOp a.eval o
  | [], _, _ => rfl
  | p :: L, a, h => by
    show execOp ((putL L a).put (some p.1) p.2).eval o = _
    rw [execOp_put o hs _ (some p.1) p.2 (ops := ops) (fun d hd => by cases hd; exact h p (by simp))]
    exact putL_exec hs L a (fun q hq => h q (by simp [hq]))
theorem putL_wanted {ops : Array Oper} {o : Oper} : ∀ (L : List (Nat × Value)) (a : Act), (∀ p ∈ L, p.1 ∉ o.looksAt ops) → Region.wanted o (yielded ops (putL L a).tmps) = Region.wanted o (yielded ops a.tmps)
  | [], _, _ => rfl
  | p :: L, a, h => by
    show Region.wanted o (yielded ops ((putL L a).put (some p.1) p.2).tmps) = _
    rw [wanted_put o _ (some p.1) p.2 (fun d hd => by cases hd; exact h p (by simp))]
    exact putL_wanted L a (fun q hq => h q (by simp [hq]))
theorem put_put (a : Act) (d : Nat) (u v : Value) : (a.put (some d) u).put (some d) v = a.put (some d) v := by
  simp [Act.put]

def ptr (b : Nat) : Value := .pointer (some ⟨b, 0, none⟩)
def entOf (β : Nat → Nat) (listed : Nat → Bool) (e : Eff) : Ent := ⟨β e.ia, bif listed e.is then e.vs else e.zs, e.t⟩
def tailE (β : Nat → Nat) (listed : Nat → Bool) (es : List Eff) : List Ent := (es.filter (fun e => listed e.ia)).map (entOf β listed)

structure EffOk (P : Program) (ops : Array Oper) (es : List Eff) : Prop where
  a : ∀ e ∈ es, ∃ ty pos af, ops[e.ia]? = some ⟨some e.d, .alloc e.t, ty, pos, af, none⟩
  s : ∀ e ∈ es, ∃ ty pos af, ops[e.is]? = some ⟨none, .store e.t (.tmp e.d) e.x, ty, pos, af, none⟩ ∧ ∃ g ∈ af, g.on = e.ia ∧ Region.binds .any g = true
  z : ∀ e ∈ es, ∃ z, (∀ w, (zeroValue e.t).run P w = .ok z w) ∧ z.cells.toList = e.zs
  k : ∀ e ∈ es, ∀ w, (Go.sizeOf e.t).run P w = .ok e.vs.length w
  len : ∀ e ∈ es, e.zs.length = e.vs.length
  one : ∀ e ∈ es, ∀ v ∈ e.vs, v.oneCell' = true
  dif : es.Pairwise (fun e f => e.ia ≠ f.ia ∧ e.d ≠ f.d ∧ e.is ≠ f.is)
  ns : ∀ e ∈ es, ∀ f ∈ es, e.ia ≠ f.is
  sep : ∀ (i : Nat) (o : Oper), ops[i]? = some o → (∀ e ∈ es, e.ia ≠ i ∧ e.is ≠ i) → ∀ e ∈ es, e.d ∉ o.looksAt ops ∧ o.dst ≠ some e.d
  xs : ∀ e ∈ es, ∀ f ∈ es, e.x ≠ .tmp f.d
  sel : Region.noSelect ops = true

/-- what an operation yields: an effect nothing that the others see; another one its value, whatever the new blocks hold -/
def YE (P : Program) (ops : Array Oper) (w0 : World) (H : List Ent) (es : List Eff) (i : Nat) (o : Oper) (v : Value) (a : Act) : Prop :=
  (∃ e ∈ es, e.ia = i ∧ v = undef) ∨
  (∃ e ∈ es, e.is = i ∧ v = undef ∧ a.eval e.x = .agg e.vs.toArray) ∨
  ((∀ e ∈ es, e.ia ≠ i ∧ e.is ≠ i) ∧ ((Region.wanted o (yielded ops a.tmps) = true ∧ ∀ T w, Sat w0 (H ++ T) w → o.quietAt P a (Sat w0 (H ++ T)) w v) ∨
    (Region.wanted o (yielded ops a.tmps) = false ∧ v = undef)))

theorem fitE {P : Program} {ops : Array Oper} {w0 : World} {H : List Ent} {es : List Eff} (ok : EffOk P ops es) : Fit ops (YE P ops w0 H es) := by
  intro i o v a d u hi hd
  have hs : ∀ cs b, o.op ≠ .select cs b := fun cs b => Region.noSelect_spec ok.sel i o cs b hi
  have e1 : execOp (a.put d u).eval o = execOp a.eval o := execOp_put o hs a d u hd
  have e2 : Region.wanted o (yielded ops (a.put d u).tmps) = Region.wanted o (yielded ops a.tmps) := wanted_put o a d u hd
  have e3 : ∀ e ∈ es, e.is = i → (a.put d u).eval e.x = a.eval e.x := by
    intro e he hei
    refine Act.eval_put fun x hx hc => hd x hx ?_
    obtain ⟨ty, pos, af, hso, _⟩ := ok.s e he
    rw [hei, hi] at hso
    cases hso
    unfold Oper.looksAt
    refine List.mem_append_left _ (List.mem_filterMap.2 ⟨.tmp x, ?_, rfl⟩)
    simp [Op.operands, hc]
  unfold YE Oper.quietAt
  rw [e1, e2]
  constructor
  · rintro (h | ⟨e, he, hei, hv, hx⟩ | h)
    · exact .inl h
    · exact .inr (.inl ⟨e, he, hei, hv, by rw [← e3 e he hei]; exact hx⟩)
    · exact .inr (.inr h)
  · rintro (h | ⟨e, he, hei, hv, hx⟩ | h)
    · exact .inl h
    · exact .inr (.inl ⟨e, he, hei, hv, by rw [e3 e he hei]; exact hx⟩)
    · exact .inr (.inr h)

theorem dif_ne : ∀ {es : List Eff}, es.Pairwise (fun e f => e.ia ≠ f.ia ∧ e.d ≠ f.d ∧ e.is ≠ f.is) → ∀ e ∈ es, ∀ f ∈ es, e ≠ f → e.ia ≠ f.ia ∧ e.d ≠ f.d ∧ e.is ≠ f.is
  | [], _, _, he, _, _, _ => by cases he
  | x :: es, h, e, he, f, hf, hne => by
    obtain ⟨h1, h2⟩ := List.pairwise_cons.1 h
    rcases List.mem_cons.1 he with h3 | h3 <;> rcases List.mem_cons.1 hf with h4 | h4
    · exact absurd (h3.trans h4.symm) hne
    · rw [h3]; exact h1 f h4
    · rw [h4]; obtain ⟨a, b, c⟩ := h1 e h3; exact ⟨a.symm, b.symm, c.symm⟩
    · exact dif_ne h2 e h3 f h4 hne

/-- own blocks and the new ones, one by one -/
theorem tail_iff {w0 : World} {H : List Ent} {es : List Eff} {β : Nat → Nat} {L : Nat → Bool} {w : World} :
    Sat w0 (H ++ tailE β L es) w ↔ Sat w0 H w ∧
      (∀ e ∈ es, L e.ia = true → w0.heap.size ≤ β e.ia ∧ w.heap[β e.ia]? = some (.cells (bif L e.is then e.vs else e.zs).toArray e.t (0, 0))) ∧
      (∀ h ∈ H, ∀ e ∈ es, L e.ia = true → h.b ≠ β e.ia) ∧ es.Pairwise (fun e f => L e.ia = true → L f.ia = true → β e.ia ≠ β f.ia) := by
  constructor
  · intro h
    have ha := List.pairwise_append.1 h.apart
    refine ⟨h.sub (List.sublist_append_left _ _), fun e he hl => ?_, fun x hx e he hl => ?_, ?_⟩
    · exact h.own (entOf β L e) (List.mem_append_right _ (List.mem_map.2 ⟨e, List.mem_filter.2 ⟨he, hl⟩, rfl⟩))
    · exact ha.2.2 x hx (entOf β L e) (List.mem_map.2 ⟨e, List.mem_filter.2 ⟨he, hl⟩, rfl⟩)
    · have := ha.2.1
      unfold tailE at this
      rw [List.pairwise_map] at this
      exact List.pairwise_filter.1 this
  · rintro ⟨h1, h2, h3, h4⟩
    refine ⟨h1.below, fun x hx => ?_, List.pairwise_append.2 ⟨h1.apart, ?_, fun x hx y hy => ?_⟩⟩
    · rcases List.mem_append.1 hx with hx | hx
      · exact h1.own x hx
      · obtain ⟨e, he, rfl⟩ := List.mem_map.1 hx
        obtain ⟨he, hl⟩ := List.mem_filter.1 he
        exact h2 e he hl
    · unfold tailE
      rw [List.pairwise_map]
      exact List.pairwise_filter.2 h4
    · obtain ⟨e, he, rfl⟩ := List.mem_map.1 hy
      obtain ⟨he, hl⟩ := List.mem_filter.1 he
      exact h3 x hx e he hl

def RE (ops : Array Oper) (w0 : World) (H : List Ent) (es : List Eff) (n : Nat) (listed : Array Bool) (a0 a : Act) (w : World) : Prop :=
  listed.size = ops.size ∧ a0.tmps.size = n ∧ (∀ e ∈ es, listed.getD e.is false = true → listed.getD e.ia false = true) ∧ ∃ (L : List (Nat × Value)) (β : Nat → Nat), a = putL L a0 ∧ (∀ p ∈ L, ∃ e ∈ es, listed.getD e.ia false = true ∧ p = (e.d, ptr (β e.ia))) ∧
    (∀ e ∈ es, listed.getD e.ia false = true → (e.d, ptr (β e.ia)) ∈ L) ∧ L.Pairwise (fun p q => p.1 ≠ q.1) ∧ Sat w0 (H ++ tailE β (fun i => listed.getD i false) es) w

theorem putL_size : ∀ (L : List (Nat × Value)) (a : Act), (putL L a).tmps.size = a.tmps.size
  | [], _ => rfl
  | p :: L, a => by show ((putL L a).put (some p.1) p.2).tmps.size = _; simp [Act.put, putL_size L a]
theorem putL_get : ∀ (L : List (Nat × Value)) (a : Act) (d : Nat) (v : Value), (d, v) ∈ L → L.Pairwise (fun p q => p.1 ≠ q.1) → d < a.tmps.size → (putL L a).eval (.tmp d) = v
  | [], _, _, _, h, _, _ => by cases h
  | p :: L, a, d, v, h, hp, hd => by
    obtain ⟨h1, h2⟩ := List.pairwise_cons.1 hp
    show ((putL L a).put (some p.1) p.2).eval (.tmp d) = v
    rcases List.mem_cons.1 h with rfl | h
    · simp [Act.eval, Act.put, putL_size, hd]
    · rw [Act.eval_put (fun x hx hc => by cases hx; cases hc; exact h1 _ h rfl)]
      exact putL_get L a d v h h2 hd
theorem putL_other : ∀ (L : List (Nat × Value)) (a : Act) (x : Operand), (∀ p ∈ L, x ≠ .tmp p.1) → (putL L a).eval x = a.eval x
  | [], _, _, _ => rfl
  | p :: L, a, x, h => by
    show ((putL L a).put (some p.1) p.2).eval x = _
    rw [Act.eval_put (fun d hd hc => by cases hd; exact h p (by simp) hc)]
    exact putL_other L a x (fun q hq => h q (by simp [hq]))

theorem getD_set_self {listed : Array Bool} {i : Nat} (h : i < listed.size) : (listed.setIfInBounds i true).getD i false = true := by simp [h]
theorem getD_undo {listed : Array Bool} {i j : Nat} (h : (listed.setIfInBounds i true).getD j false = true) : j = i ∨ listed.getD j false = true := by
  by_cases hij : i = j
  · exact .inl hij.symm
  · rw [getD_set_ne false hij] at h; exact .inr h

section
variable {P : Program} {ops : Array Oper} {w0 : World} {H : List Ent} {es : List Eff} {n : Nat} {Q' : Exit → Act → World → Prop} {listed : Array Bool} {a0 a : Act} {w : World} {o : Oper} {i : Nat} {K : Act → World → Prop} {v : Value}

theorem step_alloc (ok : EffOk P ops es) (hi : i ∈ Region.ready .any ops listed) (ho : ops[i]? = some o) (hR : RE ops w0 H es n listed a0 a w) {e : Eff} (he : e ∈ es) (hei : e.ia = i) (hv : v = undef)
    (hK : ∀ a' w', RE ops w0 H es n (listed.setIfInBounds i true) (a0.put o.dst v) a' w' → K a' w') : wpOp P ops Q' i K a w := by
  obtain ⟨hz, hn, hdep, L, β, rfl, hL1, hL2, hL3, hS⟩ := hR
  obtain ⟨ty, pos, af, ho'⟩ := ok.a e he
  rw [hei, ho] at ho'
  cases ho'
  subst hv
  obtain ⟨z, hz1, hz2⟩ := ok.z e he
  have hun : listed.getD i false = false := by
    have h1 := (mem_ready.1 hi).1
    have hlt : i < listed.size := by rw [hz]; exact (Array.getElem?_eq_some_iff.1 ho).1
    simpa [hlt] using h1
  have hlt : i < listed.size := by rw [hz]; exact (Array.getElem?_eq_some_iff.1 ho).1
  have hother : ∀ f ∈ es, listed.getD f.ia false = true → f.ia ≠ e.ia := fun f hf hl hc => by rw [hc, hei, hun] at hl; cases hl
  have hne : ∀ p ∈ L, some e.d ≠ some p.1 := fun p hp hc => by
    obtain ⟨f, hf, hfl, rfl⟩ := hL1 p hp
    have hfe : f ≠ e := fun h => hother f hf hfl (by rw [h])
    exact (dif_ne ok.dif f hf e he hfe).2.1 (by simpa using hc.symm)
  unfold wpOp
  simp only [ho]
  rw [if_pos (by rfl)]
  left
  have hc : z.cells = e.zs.toArray := by rw [← hz2]
  have hr : (execOp (putL L a0).eval ⟨some e.d, .alloc e.t, ty, pos, af, none⟩).run P w = .ok (.value (ptr w.heap.size)) (w.alloc (.cells e.zs.toArray e.t)) := by
    simp [execOp, Instr.alloc, hz1, newVar, newRow, newObj, Sem.run, hc, ptr]
  unfold Oper.wp
  rw [hr]
  refine hK _ _ ⟨by simpa using hz, by simpa [Act.put] using hn, fun f hf hfs => ?_, (e.d, ptr w.heap.size) :: L, fun k => if k = e.ia then w.heap.size else β k, ?_, ?_, ?_, ?_, ?_⟩
  · rcases getD_undo hfs with h | h
    · exact absurd (hei.trans h.symm) (ok.ns e he f hf)
    · exact getD_set_true (hdep f hf h)
  · show _ = (putL L (a0.put (some e.d) undef)).put (some e.d) _
    rw [putL_put L a0 _ _ hne, put_put]
  · intro p hp
    rcases List.mem_cons.1 hp with rfl | hp
    · exact ⟨e, he, by rw [hei]; exact getD_set_self hlt, by simp⟩
    · obtain ⟨f, hf, hfl, rfl⟩ := hL1 p hp
      exact ⟨f, hf, getD_set_true hfl, by simp [hother f hf hfl]⟩
  · intro f hf hfl
    rcases getD_undo hfl with h | h
    · have hfe : f = e := by
        by_cases hfe : f = e
        · exact hfe
        · exact absurd (h.trans hei.symm) (dif_ne ok.dif f hf e he hfe).1
      subst hfe; simp
    · simp [hother f hf h, hL2 f hf h]
  · exact List.pairwise_cons.2 ⟨fun p hp hc => hne p hp (by simpa using hc), hL3⟩
  · obtain ⟨h1, h2, h3, h4⟩ := tail_iff.1 hS
    have hb : Below w.heap.size w (w.alloc (.cells e.zs.toArray e.t)) := (Below.refl _ _).alloc (Nat.le_refl _) _
    have hnots : ∀ f ∈ es, f.is ≠ i := fun f hf h => ok.ns e he f hf (hei.trans h.symm)
    refine tail_iff.2 ⟨h1.step hb, fun f hf hfl => ?_, fun x hx f hf hfl => ?_, ?_⟩
    · rcases getD_undo hfl with h | h
      · have hfe : f = e := by
          by_cases hfe : f = e
          · exact hfe
          · exact absurd (h.trans hei.symm) (dif_ne ok.dif f hf e he hfe).1
        subst hfe
        have hun' : listed.getD f.ia false = false := by rw [hei]; exact hun
        have hns : (listed.setIfInBounds i true).getD f.is false = false := by
          rw [getD_set_ne false (Ne.symm (hnots f hf))]
          cases hq : listed.getD f.is false with
          | false => rfl
          | true => rw [hdep f hf hq] at hun'; cases hun'
        simp only [if_pos, hns, cond_false]
        exact ⟨h1.size, heap_alloc_new w _⟩
      · simp only [if_neg (hother f hf h)]
        rw [getD_set_ne false (Ne.symm (hnots f hf))]
        obtain ⟨g1, g2⟩ := h2 f hf h
        exact ⟨g1, (hb.block _ (Array.getElem?_eq_some_iff.1 g2).1).trans g2⟩
    · rcases getD_undo hfl with h | h
      · have := h1.lt hx
        rw [hei.symm] at h
        simp only [h, if_true]; omega
      · simp only [if_neg (hother f hf h)]; exact h3 x hx f hf h
    · refine List.Pairwise.imp_of_mem (fun {f g} hf hg hh hfl hgl => ?_) (h4.and ok.dif)
      obtain ⟨hh1, hh2, _⟩ := hh
      rcases getD_undo hfl with hf1 | hf1 <;> rcases getD_undo hgl with hg1 | hg1
      · exact absurd (hf1.trans hg1.symm) hh2
      · have hlt2 := (Array.getElem?_eq_some_iff.1 (h2 g hg hg1).2).1
        have e1 : f.ia = e.ia := hf1.trans hei.symm
        simp only [e1, if_true, if_neg (hother g hg hg1)]; omega
      · have hlt2 := (Array.getElem?_eq_some_iff.1 (h2 f hf hf1).2).1
        have e1 : g.ia = e.ia := hg1.trans hei.symm
        simp only [e1, if_true, if_neg (hother f hf hf1)]; omega
      · simp only [if_neg (hother f hf hf1), if_neg (hother g hg hg1)]; exact hh1 hf1 hg1

theorem put_size (a : Act) (d : Option Nat) (v : Value) : (a.put d v).tmps.size = a.tmps.size := by cases d <;> simp [Act.put]
theorem pw_ne {β : Nat → Nat} {L : Nat → Bool} : ∀ {es : List Eff}, es.Pairwise (fun e f => L e.ia = true → L f.ia = true → β e.ia ≠ β f.ia) → ∀ e ∈ es, ∀ f ∈ es, e ≠ f → L e.ia = true → L f.ia = true → β e.ia ≠ β f.ia
  | [], _, _, he, _, _, _ => by cases he
  | x :: es, h, e, he, f, hf, hne => by
    obtain ⟨h1, h2⟩ := List.pairwise_cons.1 h
    rcases List.mem_cons.1 he with h3 | h3 <;> rcases List.mem_cons.1 hf with h4 | h4
    · exact absurd (h3.trans h4.symm) hne
    · rw [h3]; exact h1 f h4
    · rw [h4]; intro a b c; exact h1 e h3 b a c.symm
    · exact pw_ne h2 e h3 f h4 hne

theorem step_quiet (ok : EffOk P ops es) (ho : ops[i]? = some o) (hR : RE ops w0 H es n listed a0 a w) (hne : ∀ e ∈ es, e.ia ≠ i ∧ e.is ≠ i)
    (hq : (Region.wanted o (yielded ops a0.tmps) = true ∧ ∀ T w, Sat w0 (H ++ T) w → o.quietAt P a0 (Sat w0 (H ++ T)) w v) ∨ (Region.wanted o (yielded ops a0.tmps) = false ∧ v = undef))
    (hK : ∀ a' w', RE ops w0 H es n (listed.setIfInBounds i true) (a0.put o.dst v) a' w' → K a' w') : wpOp P ops Q' i K a w := by
  obtain ⟨hz, hn, hdep, L, β, rfl, hL1, hL2, hL3, hS⟩ := hR
  have hs : ∀ cs b, o.op ≠ .select cs b := fun cs b => Region.noSelect_spec ok.sel i o cs b ho
  have hlook : ∀ p ∈ L, p.1 ∉ o.looksAt ops := fun p hp => by obtain ⟨f, hf, _, rfl⟩ := hL1 p hp; exact (ok.sep i o ho hne f hf).1
  have hdst : ∀ p ∈ L, o.dst ≠ some p.1 := fun p hp => by obtain ⟨f, hf, _, rfl⟩ := hL1 p hp; exact (ok.sep i o ho hne f hf).2
  have e1 := putL_exec (ops := ops) hs L a0 hlook
  have e2 := putL_wanted (ops := ops) (o := o) L a0 hlook
  have s1 : ∀ f ∈ es, (listed.setIfInBounds i true).getD f.ia false = listed.getD f.ia false := fun f hf => getD_set_ne false (Ne.symm (hne f hf).1)
  have s2 : ∀ f ∈ es, (listed.setIfInBounds i true).getD f.is false = listed.getD f.is false := fun f hf => getD_set_ne false (Ne.symm (hne f hf).2)
  have htail : tailE β (fun j => (listed.setIfInBounds i true).getD j false) es = tailE β (fun j => listed.getD j false) es := by
    unfold tailE
    rw [List.filter_congr (q := fun e => listed.getD e.ia false) (fun f hf => s1 f hf)]
    exact List.map_congr_left (fun f hf => by have h := s2 f (List.mem_filter.1 hf).1; simp only [entOf, h])
  have hgo : ∀ w', Sat w0 (H ++ tailE β (fun j => listed.getD j false) es) w' → K ((putL L a0).put o.dst v) w' := fun w' hw' =>
    hK _ _ ⟨by simpa using hz, by rw [put_size]; exact hn, fun f hf h => by rw [s1 f hf]; exact hdep f hf (by rw [← s2 f hf]; exact h), L, β, (putL_put L a0 o.dst v hdst).symm,
      fun p hp => by obtain ⟨f, hf, h1, h2⟩ := hL1 p hp; exact ⟨f, hf, by rw [s1 f hf]; exact h1, h2⟩, fun f hf h => hL2 f hf (by rw [← s1 f hf]; exact h), hL3, by rw [htail]; exact hw'⟩
  unfold wpOp
  simp only [ho]
  rw [e2]
  rcases hq with ⟨hw, hq⟩ | ⟨hw, rfl⟩
  · rw [if_pos hw]
    left
    refine Oper.wp_of_quiet (C := Sat w0 (H ++ tailE β (fun j => listed.getD j false) es)) (K := fun a => a = (putL L a0).put o.dst v) hS (fun a' w' hw' ha => by subst ha; exact hgo w' hw') ⟨v, fun w1 hw1 => ?_, rfl⟩
    have h := hq _ w1 hw1
    unfold Oper.quietAt at h ⊢
    rw [e1]
    exact h
  · rw [if_neg (by simp [hw])]
    exact hgo w hS

theorem step_store (ok : EffOk P ops es) (hdn : ∀ e ∈ es, e.d < n) (hi : i ∈ Region.ready .any ops listed) (ho : ops[i]? = some o) (hR : RE ops w0 H es n listed a0 a w) {e : Eff} (he : e ∈ es) (hei : e.is = i) (hv : v = undef)
    (hx : a0.eval e.x = .agg e.vs.toArray)
    (hK : ∀ a' w', RE ops w0 H es n (listed.setIfInBounds i true) (a0.put o.dst v) a' w' → K a' w') : wpOp P ops Q' i K a w := by
  obtain ⟨hz, hn, hdep, L, β, rfl, hL1, hL2, hL3, hS⟩ := hR
  obtain ⟨ty, pos, af, ho', g, hg, hgo, hgb⟩ := ok.s e he
  rw [hei, ho] at ho'
  cases ho'
  subst hv
  have hlt : i < listed.size := by rw [hz]; exact (Array.getElem?_eq_some_iff.1 ho).1
  have hun : listed.getD i false = false := by
    have h1 := (mem_ready.1 hi).1
    simpa [hlt] using h1
  have hal : listed.getD e.ia false = true := by
    obtain ⟨_, o2, ho2, hall⟩ := mem_ready.1 hi
    rw [ho] at ho2
    cases ho2
    rw [← hgo]
    exact hall g hg hgb
  have hother : ∀ f ∈ es, f ≠ e → f.is ≠ i := fun f hf hfe h => (dif_ne ok.dif f hf e he hfe).2.2 (h.trans hei.symm)
  have hnota : ∀ f ∈ es, f.ia ≠ i := fun f hf h => ok.ns f hf e he (h.trans hei.symm)
  have s1 : ∀ f ∈ es, (listed.setIfInBounds i true).getD f.ia false = listed.getD f.ia false := fun f hf => getD_set_ne false (Ne.symm (hnota f hf))
  have s2 : ∀ f ∈ es, f ≠ e → (listed.setIfInBounds i true).getD f.is false = listed.getD f.is false := fun f hf hfe => getD_set_ne false (Ne.symm (hother f hf hfe))
  have hp : (putL L a0).eval (.tmp e.d) = ptr (β e.ia) := putL_get L a0 e.d _ (hL2 e he hal) hL3 (by rw [hn]; exact hdn e he)
  have hxx : (putL L a0).eval e.x = .agg e.vs.toArray := by
    rw [putL_other L a0 e.x (fun p hp => by obtain ⟨f, hf, _, rfl⟩ := hL1 p hp; exact ok.xs e he f hf)]
    exact hx
  obtain ⟨h1, h2, h3, h4⟩ := tail_iff.1 hS
  have hb := (h2 e he hal).2
  simp only [hei, hun, cond_false] at hb
  have hlen := ok.len e he
  have hst := run_storeCells_at P (β e.ia) 0 e.t e.vs 0 e.zs.toArray w hb (by simp [hlen]) (ok.one e he)
  have hk := ok.k e he
  have hr : (execOp (putL L a0).eval ⟨none, .store e.t (.tmp e.d) e.x, ty, pos, af, none⟩).run P w = .ok .skip (w.setRow (β e.ia) e.vs.toArray) := by
    simp only [Nat.add_zero] at hst
    simp [execOp, hp, hxx, ptr, Instr.storeAt, Instr.sureAddr, storeVar, hk, hst, Value.cells, ← hlen]
  have hmem : entOf β (fun j => listed.getD j false) e ∈ H ++ tailE β (fun j => listed.getD j false) es := List.mem_append_right _ (List.mem_map.2 ⟨e, List.mem_filter.2 ⟨he, hal⟩, rfl⟩)
  obtain ⟨j, hj⟩ := List.getElem?_of_mem hmem
  have hset := hS.set hj e.vs
  have hjl : j < (H ++ tailE β (fun j => listed.getD j false) es).length := (List.getElem?_eq_some_iff.1 hj).1
  unfold wpOp
  simp only [ho]
  rw [if_pos (by rfl)]
  left
  unfold Oper.wp
  rw [hr]
  refine hK _ _ ⟨by simpa using hz, by rw [put_size]; exact hn, fun f hf hfs => ?_, L, β, rfl, fun p hp => ?_, fun f hf h => hL2 f hf (by rw [← s1 f hf]; exact h), hL3, ?_⟩
  · rw [s1 f hf]
    by_cases hfe : f = e
    · rw [hfe]; exact hal
    · exact hdep f hf (by rw [← s2 f hf hfe]; exact hfs)
  · obtain ⟨f, hf, g1, g2⟩ := hL1 p hp
    exact ⟨f, hf, by rw [s1 f hf]; exact g1, g2⟩
  · have hbl : Below w0.heap.size w0 (w.setRow (β e.ia) e.vs.toArray) := hset.below
    refine tail_iff.2 ⟨⟨hbl, fun x hx => ⟨(h1.own x hx).1, ?_⟩, h1.apart⟩, fun f hf hfl => ?_, fun x hx f hf hfl => h3 x hx f hf (by rw [← s1 f hf]; exact hfl), ?_⟩
    · rw [setRow_other w _ _ _ (h3 x hx e he hal)]; exact (h1.own x hx).2
    · rw [s1 f hf] at hfl
      by_cases hfe : f = e
      · subst hfe
        refine ⟨(h2 f he hal).1, ?_⟩
        have := (hset.own ⟨β f.ia, f.vs, f.t⟩ (List.mem_iff_getElem?.2 ⟨j, by rw [List.getElem?_set_self hjl]; rfl⟩)).2
        rw [hei, getD_set_self hlt]
        exact this
      · rw [s2 f hf hfe]
        obtain ⟨g1, g2⟩ := h2 f hf hfl
        refine ⟨g1, ?_⟩
        rw [setRow_other w _ _ _ (pw_ne (L := fun j => listed.getD j false) h4 f hf e he hfe hfl hal)]
        exact g2
    · refine List.Pairwise.imp_of_mem (fun {f g} hf hg hh hfl hgl => ?_) h4
      rw [s1 f hf] at hfl
      rw [s1 g hg] at hgl
      exact hh hfl hgl
end

def putF : List (Nat × Value) → (Nat → Value) → Nat → Value
  | [], G => G
  | p :: L, G => upd (putF L G) p.1 p.2
theorem putL_fr (n : Nat) : ∀ (L : List (Nat × Value)) (G : Nat → Value), putL L (fr n G) = fr n (putF L G)
  | [], _ => rfl
  | p :: L, G => by
    show (putL L (fr n G)).put (some p.1) p.2 = _
    rw [putL_fr n L G, fr_put]; rfl
theorem upd_self (F : Nat → Value) (d : Nat) (v : Value) : upd F d v d = v := by simp [upd]
theorem upd_ne (F : Nat → Value) {d t : Nat} (v : Value) (h : t ≠ d) : upd F d v t = F t := by
  unfold upd
  cases hb : Nat.beq t d with
  | true => exact absurd (Nat.eq_of_beq_eq_true hb) h
  | false => rfl
theorem putF_mem : ∀ (L : List (Nat × Value)) (G : Nat → Value) (t : Nat) (v : Value), (t, v) ∈ L → L.Pairwise (fun p q => p.1 ≠ q.1) → putF L G t = v
  | [], _, _, _, h, _ => by cases h
  | p :: L, G, t, v, h, hp => by
    obtain ⟨h1, h2⟩ := List.pairwise_cons.1 hp
    rcases List.mem_cons.1 h with rfl | h
    · exact upd_self _ _ _
    · show upd (putF L G) p.1 p.2 t = v
      rw [upd_ne _ _ (fun hc => h1 _ h hc.symm)]
      exact putF_mem L G t v h h2
theorem putF_not : ∀ (L : List (Nat × Value)) (G : Nat → Value) (t : Nat), (∀ p ∈ L, t ≠ p.1) → putF L G t = G t
  | [], _, _, _ => rfl
  | p :: L, G, t, h => by
    show upd (putF L G) p.1 p.2 t = _
    rw [upd_ne _ _ (h p (by simp))]
    exact putF_not L G t (fun q hq => h q (by simp [hq]))
def foldE (β : Nat → Nat) (es : List Eff) (G : Nat → Value) : Nat → Value := es.foldl (fun F e => upd F e.d (ptr (β e.ia))) G
theorem foldE_not (β : Nat → Nat) : ∀ (es : List Eff) (G : Nat → Value) (t : Nat), (∀ e ∈ es, t ≠ e.d) → foldE β es G t = G t
  | [], _, _, _ => rfl
  | e :: es, G, t, h => by
    show foldE β es (upd G e.d (ptr (β e.ia))) t = _
    rw [foldE_not β es _ t (fun f hf => h f (by simp [hf])), upd_ne _ _ (h e (by simp))]
theorem foldE_mem (β : Nat → Nat) : ∀ (es : List Eff) (G : Nat → Value) (e : Eff), e ∈ es → es.Pairwise (fun e f => e.ia ≠ f.ia ∧ e.d ≠ f.d ∧ e.is ≠ f.is) → foldE β es G e.d = ptr (β e.ia)
  | [], _, _, h, _ => by cases h
  | f :: es, G, e, h, hp => by
    obtain ⟨h1, h2⟩ := List.pairwise_cons.1 hp
    show foldE β es (upd G f.d (ptr (β f.ia))) e.d = _
    rcases List.mem_cons.1 h with h3 | h3
    · rw [h3, foldE_not β es _ _ (fun g hg => (h1 g hg).2.1), upd_self]
    · exact foldE_mem β es _ e h3 h2

def backB (ops : Array Oper) : Bool := (List.range ops.size).all fun i => match ops[i]? with
  | some o => o.after.all fun e => !Region.binds .any e || Nat.blt e.on i
  | none => true
theorem backB_spec {ops : Array Oper} (h : backB ops = true) (i : Nat) (o : Oper) (ho : ops[i]? = some o) : ∀ e ∈ o.after, Region.binds .any e = true → e.on < i := by
  intro e he hb
  unfold backB at h
  have h1 := List.all_eq_true.1 h i (List.mem_range.2 (Array.getElem?_eq_some_iff.1 ho).1)
  rw [ho] at h1
  have h2 := Array.all_eq_true'.1 h1 e he
  rw [hb] at h2
  have h3 : e.on < i := by simpa using h2
  exact h3
theorem cregE {P : Program} {Q : Exit → Act → World → Prop} {w0 : World} {H : List Ent} {n : Nat} {F : Nat → Value} {id : Nat} {l : List Oper} (es : List Eff) (hm : P.follows .mixedOrders = true) (hB : Region.lexB .any l.toArray = true)
    (hb : backB l.toArray = true) (ok : EffOk P l.toArray es) (hdn : ∀ e ∈ es, e.d < n) (h : wT l.toArray (YE P l.toArray w0 H es) (fun a' => ∃ G, a' = fr n G ∧ ∀ β : Nat → Nat, NQ Q w0 (H ++ es.map (fun e => ⟨β e.ia, e.vs, e.t⟩)) .normal n (foldE β es G)) 0 l (fr n F)) : WC P Q w0 H (.region id l.toArray true) n F := by
  intro w hw
  refine wp_region_any hm ?_
  simp only [Region.lexB, Bool.and_eq_true] at hB
  have hE := wE_lex (md := .any) (fitE ok) l 0 (Array.replicate l.toArray.size false) (fr n F) (by simp) (by simpa using hB.2) h
  refine wpAny_of_wE (Q := fun a' => ∃ G, a' = fr n G ∧ ∀ β : Nat → Nat, NQ Q w0 (H ++ es.map (fun e => ⟨β e.ia, e.vs, e.t⟩)) .normal n (foldE β es G)) (Y := YE P l.toArray w0 H es) (RE l.toArray w0 H es n) ?_ ?_ _ _ (fr n F) _ _ ?_ (by simpa using hE)
  · intro listed a0 a w hr hR ha
    obtain ⟨hz, hn, hdep, L, β, rfl, hL1, hL2, hL3, hS⟩ := hR
    obtain ⟨G, rfl, hf⟩ := ha
    have hall := all_listed (P := P) (backB_spec hb) hz hr
    have hia : ∀ e ∈ es, listed.getD e.ia false = true := fun e he => by
      obtain ⟨ty, pos, af, h1⟩ := ok.a e he
      exact hall _ (Array.getElem?_eq_some_iff.1 h1).1
    have his : ∀ e ∈ es, listed.getD e.is false = true := fun e he => by
      obtain ⟨ty, pos, af, h1, _⟩ := ok.s e he
      exact hall _ (Array.getElem?_eq_some_iff.1 h1).1
    have ht : tailE β (fun i => listed.getD i false) es = es.map (fun e => ⟨β e.ia, e.vs, e.t⟩) := by
      unfold tailE
      rw [List.filter_eq_self.2 (fun e he => hia e he)]
      exact List.map_congr_left (fun e he => by have h1 := his e he; simp only [entOf, h1, cond_true])
    have hg : putF L G = foldE β es G := by
      funext t
      by_cases hx : ∃ e ∈ es, e.d = t
      · obtain ⟨e, he, rfl⟩ := hx
        rw [putF_mem L G _ _ (hL2 e he (hia e he)) hL3, foldE_mem β es G e he ok.dif]
      · rw [putF_not L G t (fun p hp hc => by obtain ⟨f, hf, _, rfl⟩ := hL1 p hp; exact hx ⟨f, hf, hc.symm⟩), foldE_not β es G t (fun e he hc => hx ⟨e, he, hc.symm⟩)]
    rw [putL_fr, hg]
    exact hf β w (by rw [← ht]; exact hS)
  · intro listed a0 a w i o v K hi ho hR hy hK
    rcases hy with ⟨e, he, hei, hv⟩ | ⟨e, he, hei, hv, hx⟩ | ⟨hne, hq⟩
    · exact step_alloc ok hi ho hR he hei hv hK
    · exact step_store ok hdn hi ho hR he hei hv hx hK
    · exact step_quiet ok ho hR hne hq hK
  · refine ⟨by simp, by simp [fr], fun e _ h => ?_, [], fun _ => 0, rfl, (fun p hp => by cases hp), fun e _ h => ?_, .nil, tail_iff.2 ⟨hw.drew, fun e _ h => ?_, fun x _ e _ h => ?_, ?_⟩⟩
    · simp [Array.getD] at h
    · simp [Array.getD] at h
    · simp [Array.getD] at h
    · simp [Array.getD] at h
    · exact List.Pairwise.imp_of_mem (fun {e f} _ _ _ h => by simp [Array.getD] at h) ok.dif

/-! ### steps of the walk -/
def WT (P : Program) (ops : Array Oper) (w0 : World) (H : List Ent) (es : List Eff) (n : Nat) (K : (Nat → Value) → Prop) (k : Nat) (l : List Oper) (F : Nat → Value) : Prop :=
  wT ops (YE P ops w0 H es) (fun a' => ∃ G, a' = fr n G ∧ K G) k l (fr n F)
theorem wT_mono {ops : Array Oper} {Y : Nat → Oper → Value → Act → Prop} {Q Q' : Act → Prop} (h : ∀ a, Q a → Q' a) : ∀ (l : List Oper) (k : Nat) (a : Act), wT ops Y Q k l a → wT ops Y Q' k l a
  | [], _, _, hq => h _ hq
  | _ :: l, k, _, ⟨v, hy, hr⟩ => ⟨v, hy, wT_mono h l (k + 1) _ hr⟩
def freeB (es : List Eff) (k : Nat) : Bool := es.all fun e => !Nat.beq e.ia k && !Nat.beq e.is k
theorem freeB_spec {es : List Eff} {k : Nat} (h : freeB es k = true) : ∀ e ∈ es, e.ia ≠ k ∧ e.is ≠ k := by
  intro e he
  have h1 := List.all_eq_true.1 h e he
  simp only [Bool.and_eq_true, Bool.not_eq_true'] at h1
  exact ⟨(fun hc => by rw [hc, Nat.beq_refl] at h1; cases h1.1), (fun hc => by rw [hc, Nat.beq_refl] at h1; cases h1.2)⟩
section
variable {P : Program} {ops : Array Oper} {w0 : World} {H : List Ent} {es : List Eff} {n : Nat} {K : (Nat → Value) → Prop} {F : Nat → Value} {k : Nat} {rest : List Oper} {d : Nat} {op : Op} {ty : TypeId} {pos : String} {af : Array Edge} {v : Value}
theorem tnil (h : K F) : WT P ops w0 H es n K k [] F := ⟨F, rfl, h⟩
theorem t1 (hk : freeB es k = true) (hq : ∀ T, Qu P (Sat w0 (H ++ T)) (ev n F) ⟨some d, op, ty, pos, af, none⟩ v) (h : WT P ops w0 H es n K (k + 1) rest (upd F d v)) :
    WT P ops w0 H es n K k (⟨some d, op, ty, pos, af, none⟩ :: rest) F :=
  ⟨v, .inr (.inr ⟨freeB_spec hk, .inl ⟨rfl, fun T w hw => by unfold Oper.quietAt; rw [fr_eval]; exact hq T w hw⟩⟩), by rw [fr_put]; exact h⟩
theorem t1g {j dj : Nat} {want g : Bool} (hk : freeB es k = true) (hj : (ops[j]?).bind (·.dst) = some dj) (hg : GW (ev n F (.tmp dj)) want g)
    (hq : g = true → ∀ T, Qu P (Sat w0 (H ++ T)) (ev n F) ⟨some d, op, ty, pos, af, some (j, want)⟩ v) (h : WT P ops w0 H es n K (k + 1) rest (upd F d (gv g v))) :
    WT P ops w0 H es n K k (⟨some d, op, ty, pos, af, some (j, want)⟩ :: rest) F := by
  cases g with
  | true =>
    rw [gvt rfl] at h
    exact ⟨v, .inr (.inr ⟨freeB_spec hk, .inl ⟨wanted_fr rfl hj hg, fun T w hw => by unfold Oper.quietAt; rw [fr_eval]; exact hq rfl T w hw⟩⟩), by rw [fr_put]; exact h⟩
  | false =>
    rw [gv_false] at h
    exact ⟨undef, .inr (.inr ⟨freeB_spec hk, .inr ⟨wanted_fr rfl hj hg, rfl⟩⟩), by rw [fr_put]; exact h⟩
theorem te {t : TypeId} (i : Nat) {e : Eff} (he : es[i]? = some e) (hk : e.ia = k) (h : WT P ops w0 H es n K (k + 1) rest (upd F d undef)) :
    WT P ops w0 H es n K k (⟨some d, .alloc t, ty, pos, af, none⟩ :: rest) F :=
  ⟨undef, .inl ⟨e, List.mem_of_getElem? he, hk, rfl⟩, by rw [fr_put]; exact h⟩
theorem ts {t : TypeId} {p x : Operand} (i : Nat) {e : Eff} (he : es[i]? = some e) (hk : e.is = k) (hx : ev n F e.x = .agg e.vs.toArray) (h : WT P ops w0 H es n K (k + 1) rest F) :
    WT P ops w0 H es n K k (⟨none, .store t p x, ty, pos, af, none⟩ :: rest) F :=
  ⟨undef, .inr (.inl ⟨e, List.mem_of_getElem? he, hk, rfl, by rw [fr_eval]; exact hx⟩), by rw [fr_put_none]; exact h⟩
end

def isTmp (x : Operand) (d : Nat) : Bool := match x with
  | .tmp t => Nat.beq t d
  | _ => false
def sepB (ops : Array Oper) (es : List Eff) : Bool := (List.range ops.size).all fun i => !freeB es i || (match ops[i]? with
  | some o => es.all fun e => !(o.looksAt ops).contains e.d && !(match o.dst with | some d => Nat.beq d e.d | none => false)
  | none => true)
theorem sepB_spec {ops : Array Oper} {es : List Eff} (h : sepB ops es = true) (i : Nat) (o : Oper) (ho : ops[i]? = some o) (hne : ∀ e ∈ es, e.ia ≠ i ∧ e.is ≠ i) : ∀ e ∈ es, e.d ∉ o.looksAt ops ∧ o.dst ≠ some e.d := by
  have hf : freeB es i = true := List.all_eq_true.2 fun e he => by
    obtain ⟨h1, h2⟩ := hne e he
    cases hb : Nat.beq e.ia i with
    | true => exact absurd (Nat.eq_of_beq_eq_true hb) h1
    | false =>
      cases hc : Nat.beq e.is i with
      | true => exact absurd (Nat.eq_of_beq_eq_true hc) h2
      | false => rfl
  have h1 := List.all_eq_true.1 h i (List.mem_range.2 (Array.getElem?_eq_some_iff.1 ho).1)
  simp only [hf, Bool.not_true, Bool.false_or, ho] at h1
  intro e he
  have h2 := List.all_eq_true.1 h1 e he
  simp only [Bool.and_eq_true, Bool.not_eq_true'] at h2
  refine ⟨fun hc => ?_, fun hc => ?_⟩
  · have := h2.1; rw [List.contains_eq_mem] at this; simp [hc] at this
  · have := h2.2; rw [hc] at this; simp [Nat.beq_refl] at this
def difB : List Eff → Bool
  | [] => true
  | e :: es => (es.all fun f => !Nat.beq e.ia f.ia && !Nat.beq e.d f.d && !Nat.beq e.is f.is) && difB es
theorem nb {a b : Nat} (h : Nat.beq a b = false) : a ≠ b := fun hc => by rw [hc, Nat.beq_refl] at h; cases h
theorem difB_spec : ∀ {es : List Eff}, difB es = true → es.Pairwise (fun e f => e.ia ≠ f.ia ∧ e.d ≠ f.d ∧ e.is ≠ f.is)
  | [], _ => .nil
  | e :: es, h => by
    unfold difB at h
    obtain ⟨h1, h2⟩ := Bool.and_eq_true_iff.1 h
    refine List.pairwise_cons.2 ⟨fun f hf => ?_, difB_spec h2⟩
    have h3 := List.all_eq_true.1 h1 f hf
    simp only [Bool.and_eq_true, Bool.not_eq_true'] at h3
    exact ⟨nb h3.1.1, nb h3.1.2, nb h3.2⟩
/-- one effect, as the region has it -/
structure EffAt (P : Program) (ops : Array Oper) (e : Eff) : Prop where
  a : ∃ ty pos af, ops[e.ia]? = some ⟨some e.d, .alloc e.t, ty, pos, af, none⟩
  s : ∃ ty pos af, ops[e.is]? = some ⟨none, .store e.t (.tmp e.d) e.x, ty, pos, af, none⟩ ∧ ∃ g ∈ af, g.on = e.ia ∧ Region.binds .any g = true
  z : ∃ z, (∀ w, (zeroValue e.t).run P w = .ok z w) ∧ z.cells.toList = e.zs
  k : ∀ w, (Go.sizeOf e.t).run P w = .ok e.vs.length w
  len : e.zs.length = e.vs.length
  one : ∀ v ∈ e.vs, v.oneCell' = true
theorem effOk {P : Program} {ops : Array Oper} {es : List Eff} (h : ∀ e ∈ es, EffAt P ops e) (hd : difB es = true) (hs : sepB ops es = true)
    (hx : (es.all fun e => es.all fun f => !isTmp e.x f.d && !Nat.beq e.ia f.is) = true) (hsel : Region.noSelect ops = true) : EffOk P ops es := by
  refine ⟨fun e he => (h e he).a, fun e he => (h e he).s, fun e he => (h e he).z, fun e he => (h e he).k, fun e he => (h e he).len, fun e he => (h e he).one, difB_spec hd, fun e he f hf => ?_,
    sepB_spec hs, fun e he f hf hc => ?_, hsel⟩
  · have h1 := List.all_eq_true.1 (List.all_eq_true.1 hx e he) f hf
    simp only [Bool.and_eq_true, Bool.not_eq_true'] at h1
    exact nb h1.2
  · have h1 := List.all_eq_true.1 (List.all_eq_true.1 hx e he) f hf
    simp only [Bool.and_eq_true, Bool.not_eq_true'] at h1
    rw [hc] at h1
    simp [isTmp, Nat.beq_refl] at h1

theorem af_any {af : Array Edge} {k : Nat} (h : (af.any fun g => Nat.beq g.on k && Region.binds .any g) = true) : ∃ g ∈ af, g.on = k ∧ Region.binds .any g = true := by
  rw [Array.any_eq_true'] at h
  obtain ⟨g, hg, h1⟩ := h
  obtain ⟨h2, h3⟩ := Bool.and_eq_true_iff.1 h1
  exact ⟨g, hg, Nat.eq_of_beq_eq_true h2, h3⟩
theorem cregE1 {P : Program} {Q : Exit → Act → World → Prop} {w0 : World} {H : List Ent} {n : Nat} {F : Nat → Value} {id : Nat} {l : List Oper} (e1 : Eff) (hm : P.follows .mixedOrders = true) (hB : Region.lexB .any l.toArray = true)
    (hb : backB l.toArray = true) (h1 : EffAt P l.toArray e1) (hd : difB [e1] = true) (hs : sepB l.toArray [e1] = true)
    (hx : ([e1].all fun e => [e1].all fun f => !isTmp e.x f.d && !Nat.beq e.ia f.is) = true) (hsel : Region.noSelect l.toArray = true) (hdn : Nat.blt e1.d n = true)
    (h : WT P l.toArray w0 H [e1] n (fun G => ∀ b1, NQ Q w0 (H ++ [⟨b1, e1.vs, e1.t⟩]) .normal n (upd G e1.d (.pointer (some ⟨b1, 0, none⟩)))) 0 l F) : WC P Q w0 H (.region id l.toArray true) n F :=
  cregE [e1] hm hB hb (effOk (fun e he => by rw [List.mem_singleton.1 he]; exact h1) hd hs hx hsel) (fun e he => by rw [List.mem_singleton.1 he]; exact Nat.le_of_ble_eq_true hdn) (wT_mono (fun a ⟨G, h1, h2⟩ => ⟨G, h1, fun β => h2 (β e1.ia)⟩) _ _ _ h)
theorem cregE2 {P : Program} {Q : Exit → Act → World → Prop} {w0 : World} {H : List Ent} {n : Nat} {F : Nat → Value} {id : Nat} {l : List Oper} (e1 e2 : Eff) (hm : P.follows .mixedOrders = true) (hB : Region.lexB .any l.toArray = true)
    (hb : backB l.toArray = true) (h1 : EffAt P l.toArray e1) (h2 : EffAt P l.toArray e2) (hd : difB [e1, e2] = true) (hs : sepB l.toArray [e1, e2] = true)
    (hx : ([e1, e2].all fun e => [e1, e2].all fun f => !isTmp e.x f.d && !Nat.beq e.ia f.is) = true) (hsel : Region.noSelect l.toArray = true) (hdn1 : Nat.blt e1.d n = true) (hdn2 : Nat.blt e2.d n = true)
    (h : WT P l.toArray w0 H [e1, e2] n (fun G => ∀ b1 b2, NQ Q w0 (H ++ [⟨b1, e1.vs, e1.t⟩, ⟨b2, e2.vs, e2.t⟩]) .normal n (upd (upd G e1.d (.pointer (some ⟨b1, 0, none⟩))) e2.d (.pointer (some ⟨b2, 0, none⟩)))) 0 l F) : WC P Q w0 H (.region id l.toArray true) n F :=
  cregE [e1, e2] hm hB hb (effOk (fun e he => by
      rcases List.mem_cons.1 he with he | he
      · rw [he]; exact h1
      · rw [List.mem_singleton.1 he]; exact h2) hd hs hx hsel) (fun e he => by
      rcases List.mem_cons.1 he with he | he
      · rw [he]; exact Nat.le_of_ble_eq_true hdn1
      · rw [List.mem_singleton.1 he]; exact Nat.le_of_ble_eq_true hdn2) (wT_mono (fun a ⟨G, h1, h2⟩ => ⟨G, h1, fun β => h2 (β e1.ia) (β e2.ia)⟩) _ _ _ h)

/-! ### one operation that comes last in every order -/
theorem wpAny_of_wE2 {P : Program} {ops : Array Oper} {md : Region.Mode} {Y : Nat → Oper → Value → Act → Prop} {Q : Act → Prop} {Q' : Exit → Act → World → Prop} (R : Array Bool → Act → Act → World → Prop)
    (hQ : ∀ listed a0 a w, Region.ready md ops listed = [] → R listed a0 a w → Q a0 → Q' .normal a w)
    (hS : ∀ listed a0 a w i o v (K : Act → World → Prop), i ∈ Region.ready md ops listed → ops[i]? = some o → R listed a0 a w → Y i o v a0 →
      (Region.ready md ops (listed.setIfInBounds i true) = [] → Q (a0.put o.dst v)) →
      (∀ a' w', R (listed.setIfInBounds i true) (a0.put o.dst v) a' w' → K a' w') → wpOp P ops Q' i K a w) :
    ∀ (fuel : Nat) (listed : Array Bool) (a0 a : Act) (w : World), R listed a0 a w → wE md ops Y Q fuel listed a0 → wpAny P md ops Q' fuel listed a w
  | 0, _, _, _, _, hR, h => ⟨h.1, hQ _ _ _ _ h.1 hR h.2⟩
  | fuel + 1, listed, a0, a, w, hR, h => by
    refine ⟨fun h0 => hQ _ _ _ _ h0 hR (h.1 h0), fun i hi => ?_⟩
    have h1 := h.2 i hi
    obtain ⟨_, o, ho, _⟩ := mem_ready.1 hi
    unfold oE at h1
    simp only [ho] at h1
    obtain ⟨v, hy, hK⟩ := h1
    refine hS listed a0 a w i o v _ hi ho hR hy (fun he => ?_) fun a' w' hR' => wpAny_of_wE2 R hQ hS fuel _ _ a' w' hR' hK
    cases fuel with
    | zero => exact hK.2
    | succ f => exact hK.1 he

def YL (P : Program) (ops : Array Oper) (C : World → Prop) (m : Nat) (i : Nat) (o : Oper) (v : Value) (a : Act) : Prop :=
  (i = m ∧ v = undef) ∨ (i ≠ m ∧ YieldsIn P ops C o v a)
theorem fitL {P : Program} {ops : Array Oper} {C : World → Prop} {m : Nat} (hsel : Region.noSelect ops = true) : Fit ops (YL P ops C m) := by
  intro i o v a d u hi hd
  have hs : ∀ cs b, o.op ≠ .select cs b := fun cs b => Region.noSelect_spec hsel i o cs b hi
  unfold YL YieldsIn Oper.quietAt
  rw [execOp_put o hs a d u hd, wanted_put o a d u hd]
theorem wT_of_quiet {P : Program} {ops : Array Oper} {C : World → Prop} {Q : Act → Prop} {m : Nat} {o : Oper} (hno : o.dst = none) : ∀ (l : List Oper) (k : Nat) (a : Act), k + l.length = m →
    wpQuiet P ops C Q l a → wT ops (YL P ops C m) Q k (l ++ [o]) a
  | [], k, a, hk, h => by
    refine ⟨undef, .inl ⟨by simpa using hk, rfl⟩, ?_⟩
    rw [hno]; exact h
  | x :: l, k, a, hk, h => by
    have hkm : k ≠ m := by simp at hk; omega
    have hk' : k + 1 + l.length = m := by simp at hk; omega
    unfold wpQuiet at h
    by_cases hw : Region.wanted x (yielded ops a.tmps) = true
    · rw [if_pos hw] at h
      obtain ⟨v, h1, h2⟩ := h
      exact ⟨v, .inr ⟨hkm, .inl ⟨hw, h1⟩⟩, wT_of_quiet hno l (k + 1) _ hk' h2⟩
    · rw [if_neg hw] at h
      exact ⟨undef, .inr ⟨hkm, .inr ⟨by simpa using hw, rfl⟩⟩, wT_of_quiet hno l (k + 1) _ hk' h⟩
def lastB (o : Oper) (m : Nat) : Bool := (List.range m).all fun j => o.after.any fun g => Nat.beq g.on j && Region.binds .any g
theorem cregS {P : Program} {Q : Exit → Act → World → Prop} {w0 : World} {H : List Ent} {n : Nat} {F : Nat → Value} {id : Nat} {L : List Oper} {o : Oper}
    (hm : P.follows .mixedOrders = true) (hL : L.getLast? = some o) (hno : o.dst = none)
    (hB : Region.lexB .any L.toArray = true) (hb : backB L.toArray = true) (hl : lastB o L.dropLast.length = true)
    (h : WQ P L.toArray w0 H (fun a' => ∀ w', Sat w0 H w' → wpList P L.toArray Q [o] a' w') L.dropLast n F) :
    WC P Q w0 H (.region id L.toArray true) n F := by
  intro w hw
  obtain ⟨l, rfl⟩ := List.getLast?_eq_some_iff.1 hL
  rw [List.dropLast_concat] at h hl
  refine wp_region_any hm ?_
  have ho0 : (l ++ [o]).toArray[l.length]? = some o := by simp
  have hsz : (l ++ [o]).toArray.size = l.length + 1 := by simp
  generalize hops : (l ++ [o]).toArray = ops at *
  have hlist : l ++ [o] = ops.toList := by rw [← hops]
  simp only [Region.lexB, Bool.and_eq_true] at hB
  have hT := wT_of_quiet (o := o) (m := l.length) hno l 0 (fr n F) (by simp) h
  have hE := wE_lex (md := .any) (fitL (P := P) (C := Sat w0 H) (m := l.length) hB.1) _ 0 (Array.replicate ops.size false) (fr n F) (by rw [hlist]; simp) (by rw [hlist]; simpa using hB.2) hT
  refine wpAny_of_wE2 (fun listed a0 a w => listed.size = ops.size ∧
    ((listed.getD l.length false = false ∧ a = a0 ∧ Sat w0 H w) ∨ (listed.getD l.length false = true ∧ Region.ready .any ops listed = [] ∧ Q .normal a w))) ?_ ?_ ops.size _ (fr n F) _ _ ?_ (by rw [hlist] at hE; simpa using hE)
  · rintro listed a0 a w hr ⟨hz, ⟨h1, _⟩ | ⟨_, _, h1⟩⟩ _
    · have := all_listed (P := P) (backB_spec hb) hz hr l.length (by omega)
      rw [h1] at this; cases this
    · exact h1
  · rintro listed a0 a w i oi v K hi ho ⟨hz, hR⟩ hy hend hK
    rcases hR with ⟨hR1, rfl, hR3⟩ | ⟨_, hR2, _⟩
    · rcases hy with ⟨rfl, rfl⟩ | ⟨him, hy⟩
      · rw [ho0] at ho
        cases ho
        have hemp : Region.ready .any ops (listed.setIfInBounds l.length true) = [] := by
          refine List.eq_nil_iff_forall_not_mem.2 fun j hj => ?_
          obtain ⟨hj1, o2, ho2, _⟩ := mem_ready.1 hj
          have hjl : j < l.length + 1 := by rw [← hsz]; exact (Array.getElem?_eq_some_iff.1 ho2).1
          rcases Nat.lt_or_ge j l.length with hlt | hge
          · obtain ⟨_, o3, ho3, hall⟩ := mem_ready.1 hi
            rw [ho0] at ho3
            cases ho3
            have h2 := List.all_eq_true.1 hl j (List.mem_range.2 hlt)
            obtain ⟨g, hg1, hg2, hg3⟩ := af_any h2
            have h3 := hall g hg1 hg3
            rw [hg2] at h3
            have h4 := getD_set_true (i := l.length) h3
            have hjs : j < (listed.setIfInBounds l.length true).size := by simp [hz, hsz]; omega
            simp only [Array.getD, hjs, dif_pos] at h4 hj1
            rw [h4] at hj1; cases hj1
          · have hje : j = l.length := by omega
            subst hje
            have h4 := getD_set_self (listed := listed) (i := l.length) (by omega)
            have hjs : l.length < (listed.setIfInBounds l.length true).size := by simp [hz, hsz]
            simp only [Array.getD, hjs, dif_pos] at h4 hj1
            rw [h4] at hj1; cases hj1
        have hfin := hend hemp
        rw [hno] at hfin
        have hfin2 : wpList P ops Q [o] a w := hfin w hR3
        have hgo : ∀ a' w', Q .normal a' w' → K a' w' := fun a' w' hq => hK _ _ ⟨by simpa using hz, .inr ⟨getD_set_self (by omega), hemp, hq⟩⟩
        unfold wpOp
        simp only [ho0]
        unfold wpList at hfin2
        split
        · rename_i hw1
          rw [if_pos hw1] at hfin2
          exact hfin2.imp (Oper.wp_mono hgo) (fun z => z)
        · rename_i hw1
          rw [if_neg hw1] at hfin2
          exact hgo _ _ hfin2
      · have hset : (listed.setIfInBounds i true).getD l.length false = false := by rw [getD_set_ne false him]; exact hR1
        refine wpOp_of_qOp (C := Sat w0 H) (K := fun a' => a' = a.put oi.dst v) hR3 (fun a' w' hw' ha => ?_) (hy.qOp ho rfl)
        subst ha
        exact hK _ _ ⟨by simpa using hz, .inl ⟨hset, rfl, hw'⟩⟩
    · rw [hR2] at hi; cases hi
  · refine ⟨by simp, .inl ⟨by simp [Array.getD], rfl, hw.drew⟩⟩
theorem qlast {P : Program} {ops : Array Oper} {Q : Exit → Act → World → Prop} {w0 : World} {H : List Ent} {n : Nat} {F : Nat → Value} {o : Oper} (h : WL P ops Q w0 H [o] n F) :
    WQ P ops w0 H (fun a' => ∀ w', Sat w0 H w' → wpList P ops Q [o] a' w') [] n F := h
end Jal
/- a region that draws its order, whose last operations come last in every order: the first ones are quiet, the last ones are walked one by one -/
namespace Jal
open Go Go.RowKit
section
variable {P : Program} {ops : Array Oper} {md : Region.Mode} {Y : Nat → Oper → Value → Act → Prop}
def wEL (md : Region.Mode) (ops : Array Oper) (Y : Nat → Oper → Value → Act → Prop) (n : Nat) (L : Array Bool → Act → Prop) : Nat → Array Bool → Act → Prop
  | 0, listed, a => L listed a
  | f + 1, listed, a =>
    Region.ready md ops listed ≠ [] ∧ ∀ i ∈ Region.ready md ops listed, i < n ∧ oE ops Y i (wEL md ops Y n L f (listed.setIfInBounds i true)) a
theorem oE_of {i : Nat} {oi : Oper} {v : Value} {a : Act} {K : Act → Prop} (hi : ops[i]? = some oi) (hy : Y i oi v a) (h : K (a.put oi.dst v)) : oE ops Y i K a := by
  unfold oE; simp only [hi]; exact ⟨v, hy, h⟩
theorem wEL_first (hF : Fit ops Y) {n i : Nat} {oi : Oper} {v : Value} {L : Array Bool → Act → Prop} (hi : ops[i]? = some oi)
    (hs : Region.sinkB md ops n = true) (hc : Region.chainB md ops n = true) (hn : n < ops.size) (hin : i < n)
    (hdone : ∀ listed a, L listed a → ∀ j ∈ Region.ready md ops listed, n ≤ j) :
    ∀ (f : Nat) (listed : Array Bool) (a : Act), HeadInv md ops n listed →
      (∀ j oj, ops[j]? = some oj → j ≠ i → listed.getD j true = false → (∀ e ∈ oj.after, Region.binds md e = true → e.on ≠ i) → oi.apart ops oj = true) →
      i ∈ Region.ready md ops listed → Y i oi v a →
      wEL md ops Y n L f (listed.setIfInBounds i true) (a.put oi.dst v) → wEL md ops Y n L (f + 1) listed a := by
  intro f
  induction f with
  | zero =>
    intro listed a inv _ hr hy H
    have hun := (mem_ready.1 hr).1
    refine ⟨fun h => (by rw [h] at hr; cases hr), fun j hj => ?_⟩
    have hjn : j < n := by
      rcases Nat.lt_or_ge j n with h | h
      · exact h
      · exact absurd hj (tail_waits hs hc hn inv _ i rfl hin hun j h)
    refine ⟨hjn, ?_⟩
    by_cases hji : j = i
    · subst hji; exact oE_of hi hy H
    · have := hdone _ _ H j (ready_mono hj hji)
      omega
  | succ f ih =>
    intro listed a inv hfree hr hy H
    have hun := (mem_ready.1 hr).1
    refine ⟨fun h => (by rw [h] at hr; cases hr), fun j hj => ?_⟩
    have hjn : j < n := by
      rcases Nat.lt_or_ge j n with h | h
      · exact h
      · exact absurd hj (tail_waits hs hc hn inv _ i rfl hin hun j h)
    refine ⟨hjn, ?_⟩
    by_cases hji : j = i
    · subst hji; exact oE_of hi hy H
    · have h1 := (H.2 j (ready_mono hj hji)).2
      obtain ⟨hjun, oj, hoj, hall⟩ := mem_ready.1 hj
      have hnot : ∀ e ∈ oj.after, Region.binds md e = true → e.on ≠ i := fun e he hb heq => by
        have h1 := hall e he hb
        rw [heq, getD_both hun] at h1
        cases h1
      have h2 := oE_put hF hi hoj (hfree j oj hoj hji hjun hnot) hy h1
      have hfree' : ∀ k ok, ops[k]? = some ok → k ≠ i → (listed.setIfInBounds j true).getD k true = false →
          (∀ e ∈ ok.after, Region.binds md e = true → e.on ≠ i) → oi.apart ops ok = true := fun k ok hk hki hun hno => by
        refine hfree k ok hk hki ?_ hno
        by_cases hjk : j = k
        · subst hjk; exact hjun
        · rw [getD_set_ne true hjk] at hun; exact hun
      refine oE_mono (fun a' h3 => ih (listed.setIfInBounds j true) a' (inv.set hj hjn) hfree' (ready_mono hr (Ne.symm hji)) h3.1 ?_) h2
      rw [Array.setIfInBounds_comm _ _ hji]
      exact h3.2
theorem wEL_lex (hF : Fit ops Y) {n g : Nat} {Lq : Act → Prop} (hs : Region.sinkB md ops n = true) (hc : Region.chainB md ops n = true) (hn : n < ops.size) :
    ∀ (l : List Oper) (k : Nat) (listed : Array Bool) (a : Act), (∀ j, j < l.length → l[j]? = ops[k + j]?) → k + l.length = n → HeadInv md ops n listed →
    Region.lexHead md ops g l.length k listed = true → wT ops Y Lq k l a →
    wEL md ops Y n (fun listed' a' => Region.seqB md ops g n listed' = true ∧ Lq a') l.length listed a
  | [], k, listed, a, _, hk, _, hB, h => by
    have : k = n := by simpa using hk
    subst this
    exact ⟨by simpa [Region.lexHead] using hB, h⟩
  | o :: l, k, listed, a, hl, hk, inv, hB, h => by
    have h0 : ops[k]? = some o := by simpa using (hl 0 (by simp)).symm
    simp only [List.length_cons, Region.lexHead, Bool.and_eq_true] at hB
    obtain ⟨⟨hr, hf⟩, hB'⟩ := hB
    have hkn : k < n := by simp only [List.length_cons] at hk; omega
    have hr' : k ∈ Region.ready md ops listed := by simpa using hr
    obtain ⟨v, hy, hK⟩ := h
    exact wEL_first hF h0 hs hc hn hkn (fun listed' a' hL => seqB_ready hL.1) l.length listed a inv (Region.free_spec h0 hf) hr' hy
      (wEL_lex hF hs hc hn l (k + 1) _ _ (fun j hj => by have := hl (j + 1) (by simp; omega); simpa [Nat.add_assoc, Nat.add_comm 1 j] using this) (by simp only [List.length_cons] at hk; omega) (inv.set hr' hkn) hB' hK)
end
def YQ (P : Program) (ops : Array Oper) (C : World → Prop) (_ : Nat) (o : Oper) (v : Value) (a : Act) : Prop := YieldsIn P ops C o v a
theorem fitQ {P : Program} {ops : Array Oper} {C : World → Prop} (hsel : Region.noSelect ops = true) : Fit ops (YQ P ops C) := by
  intro i o v a d u hi hd
  have hs : ∀ cs b, o.op ≠ .select cs b := fun cs b => Region.noSelect_spec hsel i o cs b hi
  unfold YQ YieldsIn Oper.quietAt
  rw [execOp_put o hs a d u hd, wanted_put o a d u hd]
theorem wTQ_of_quiet {P : Program} {ops : Array Oper} {C : World → Prop} {Q : Act → Prop} : ∀ (l : List Oper) (k : Nat) (a : Act), wpQuiet P ops C Q l a → wT ops (YQ P ops C) Q k l a
  | [], _, _, h => h
  | x :: l, k, a, h => by
    unfold wpQuiet at h
    by_cases hw : Region.wanted x (yielded ops a.tmps) = true
    · rw [if_pos hw] at h
      obtain ⟨v, h1, h2⟩ := h
      exact ⟨v, .inl ⟨hw, h1⟩, wTQ_of_quiet l (k + 1) _ h2⟩
    · rw [if_neg hw] at h
      exact ⟨undef, .inr ⟨by simpa using hw, rfl⟩, wTQ_of_quiet l (k + 1) _ h⟩
theorem wpAny_of_wEL {P : Program} {ops : Array Oper} {md : Region.Mode} {C : World → Prop} {Q' : Exit → Act → World → Prop} {n g : Nat} {L : Array Bool → Act → Prop}
    (hL : ∀ listed a w, C w → L listed a → wpAny P md ops Q' g listed a w) :
    ∀ (f : Nat) (listed : Array Bool) (a : Act) (w : World), C w → wEL md ops (YQ P ops C) n L f listed a → wpAny P md ops Q' (f + g) listed a w
  | 0, listed, a, w, hw, h => by rw [Nat.zero_add]; exact hL _ _ _ hw h
  | f + 1, listed, a, w, hw, h => by
    rw [show f + 1 + g = (f + g) + 1 by omega]
    refine ⟨fun h0 => absurd h0 h.1, fun i hi => ?_⟩
    have h1 := (h.2 i hi).2
    obtain ⟨_, o, ho, _⟩ := mem_ready.1 hi
    unfold oE at h1
    simp only [ho] at h1
    obtain ⟨v, hy, hK⟩ := h1
    refine wpOp_of_qOp (C := C) (K := fun a' => a' = a.put o.dst v) hw (fun a' w' hw' ha => ?_) (YieldsIn.qOp ho hy rfl)
    subst ha
    exact wpAny_of_wEL hL f _ _ _ hw' hK
theorem cregT {P : Program} {Q : Exit → Act → World → Prop} {w0 : World} {H : List Ent} {n : Nat} {F : Nat → Value} {id : Nat} {l : List Oper} (k : Nat)
    (hm : P.follows .mixedOrders = true) (hB : Region.lexTailB .any l.toArray k = true)
    (h : WQ P l.toArray w0 H (fun a' => ∀ w', Sat w0 H w' → wpList P l.toArray Q (l.drop k) a' w') (l.take k) n F) :
    WC P Q w0 H (.region id l.toArray true) n F := by
  intro w hw
  simp only [Region.lexTailB, Bool.and_eq_true, decide_eq_true_eq] at hB
  obtain ⟨⟨⟨⟨hsel, hn⟩, hs⟩, hc⟩, hlex⟩ := hB
  have hn' : k < l.length := by simpa using hn
  have htl : (l.take k).length = k := by simp; omega
  have hdl : (l.drop k).length = l.toArray.size - k := by simp
  have inv0 : HeadInv .any l.toArray k (Array.replicate l.toArray.size false) :=
    ⟨by simp, fun j oj _ hl => (by rw [getD_replicate_false] at hl; cases hl), fun t _ ht => getD_in (by simpa using ht) (getD_replicate_false _ _)⟩
  have H1 := wEL_lex (md := .any) (g := l.toArray.size - k) (fitQ (P := P) (C := Sat w0 H) hsel) hs hc hn (l.take k) 0 _ (fr n F) (fun j hj => by
    have hj' : j < k := by rw [htl] at hj; exact hj
    simp [hj']) (by simpa using htl) inv0 (by rw [htl]; exact hlex) (wTQ_of_quiet _ 0 _ h)
  refine wp_region_any hm ?_
  have := wpAny_of_wEL (Q' := Q) (g := l.toArray.size - k) (fun listed a' w' hw' hL => by
    have := wpAny_of_seq (md := .any) (Q' := Q) (l.drop k) k listed a' w' (fun j => by simp [List.getElem?_drop]) (by rw [hdl]; exact hL.1) (hL.2 w' hw')
    rwa [hdl] at this) _ _ _ _ hw.drew H1
  rw [htl, show k + (l.toArray.size - k) = l.toArray.size by omega] at this
  exact this
theorem qtail {P : Program} {ops : Array Oper} {Q : Exit → Act → World → Prop} {w0 : World} {H : List Ent} {n : Nat} {F : Nat → Value} {tl : List Oper} (h : WL P ops Q w0 H tl n F) :
    WQ P ops w0 H (fun a' => ∀ w', Sat w0 H w' → wpList P ops Q tl a' w') [] n F := h
end Jal
/- a region that draws its order: what only reads is taken first; what is left comes up one by one -/
namespace Jal
open Go Go.RowKit
/-- some of our blocks hold whatever it may be -/
def SX {X : Type} (w0 : World) (Hx : X → List Ent) (w : World) : Prop := ∃ x, Sat w0 (Hx x) w
def WH (P : Program) (ops : Array Oper) (Q : Exit → Act → World → Prop) (S : World → Prop) (w0 : World) (H : List Ent) (fuel : Nat) (listed : Array Bool) (n : Nat) (F : Nat → Value) : Prop :=
  ∀ w, Sat w0 H w → wpAnyH P .any ops Q S fuel listed (fr n F) w
section
variable {P : Program} {ops : Array Oper} {Q : Exit → Act → World → Prop} {w0 : World} {H : List Ent} {n : Nat} {F : Nat → Value} {X : Type} {Hx : X → List Ent} {fuel : Nat} {listed : Array Bool}
theorem cregH {id : Nat} {l : List Oper} (Hx : X → List Ent) (m : Nat) (hm : P.follows .mixedOrders = true) (hz : l.length = m)
    (h : WH P l.toArray Q (SX w0 Hx) w0 H m (Array.replicate m false) n F) : WC P Q w0 H (.region id l.toArray true) n F := fun w hw => by
  subst hz
  refine wp_region_held (S := SX w0 Hx) hm ?_
  have := h w.drew hw.drew
  simpa using this
theorem pure_of_qu {C : World → Prop} {ρ : Operand → Value} {o : Oper} {v : Value} (hX : (∃ E : Sem Value, execOp ρ o = (do let u ← E; pure (Next.value u))) ∨ ∃ u, execOp ρ o = pure (Next.value u)) (hq : Qu P C ρ o v) (w : World) (hw : C w) : (execOp ρ o).run P w = .ok (.value v) w := by
  have h := hq w hw
  rcases hX with ⟨E, hE⟩ | ⟨u, hE⟩
  rotate_left
  · rw [hE] at h ⊢
    obtain ⟨h1, _⟩ : u = v ∧ w = w := ⟨h.2, rfl⟩
    subst h1; rfl
  rw [hE, Sem.run_bind] at h ⊢
  cases hr : E.run P w with
  | ok u w' =>
    rw [hr] at h
    simp only [Result.andThen_ok, Sem.run_pure] at h ⊢
    obtain ⟨h1, h2⟩ := h
    subst h1; subst h2; rfl
  | halt x w' =>
    rw [hr] at h
    exact absurd h (by simp [Result.andThen, Oper.quietUpon])
theorem hq1 (i : Nat) {d : Nat} {op : Op} {ty : TypeId} {pos : String} {af : Array Edge} {v : Value} (hi : ops[i]? = some ⟨some d, op, ty, pos, af, none⟩) (hs : Region.noSelect ops = true) (hf : Region.free .any ops listed i = true)
    (hr : (Region.ready .any ops listed).contains i = true) (hQ : ∀ c a w, Q (.panic c) (a.put (some d) v) w → Q (.panic c) a w)
    (hX : (∃ E : Sem Value, execOp (ev n F) ⟨some d, op, ty, pos, af, none⟩ = (do let u ← E; pure (Next.value u))) ∨ ∃ u, execOp (ev n F) ⟨some d, op, ty, pos, af, none⟩ = pure (Next.value u)) (hS : ∀ w, Sat w0 H w → SX w0 Hx w)
    (hq : ∀ x, Qu P (Sat w0 (Hx x)) (ev n F) ⟨some d, op, ty, pos, af, none⟩ v) (h : WH P ops Q (SX w0 Hx) w0 H fuel (listed.setIfInBounds i true) n (upd F d v)) :
    WH P ops Q (SX w0 Hx) w0 H (fuel + 1) listed n F := fun w hw =>
  wpAnyH_take hi hs hf hr hQ (.inl ⟨rfl, fun w ⟨x, hx⟩ => by rw [fr_eval]; exact pure_of_qu hX (hq x) w hx⟩) (hS w hw) (by rw [fr_put]; exact h w hw)
def QH (P : Program) (ops : Array Oper) (Q : Exit → Act → World → Prop) (S : World → Prop) (fuel : Nat) (listed : Array Bool) (e : Exit) (a : Act) (w : World) : Prop :=
  match e with
  | .normal => S w ∧ wpAnyH P .any ops Q S fuel listed a w
  | e => Q e a w
theorem wp_other {o : Oper} {a : Act} {w : World} {K : Act → World → Prop} {Q1 Q2 : Exit → Act → World → Prop} (hp : ∀ c a w, Q1 (.panic c) a w → Q2 (.panic c) a w) (hl : LetsOut Q1 → LetsOut Q2)
    (h : o.wp P a w K Q1) : o.wp P a w K Q2 := by
  unfold Oper.wp at *
  generalize (execOp a.eval o).run P w = r at *
  cases r with
  | ok n w' =>
    cases n <;> simp only [Oper.upon] at h ⊢ <;> try exact h
    refine Calls.mono h fun e w'' he => ?_
    cases e with
    | returned v => exact he
    | panicked c => exact hp _ _ _ he
    | outgrown => exact hl he
  | halt x w' =>
    cases x <;> simp only [Oper.upon] at h ⊢
    exact hp _ _ _ h
theorem he (k : Nat) {o : Oper} {S : World → Prop} (hr : Region.ready .any ops listed = [k]) (ho : ops[k]? = some o)
    (h : WL P ops (QH P ops Q S fuel (listed.setIfInBounds k true)) w0 H [o] n F) : WH P ops Q S w0 H (fuel + 1) listed n F := fun w hw => by
  refine wpAnyH_all (rs := [k]) hr (by simp) (fun i hi => ?_)
  obtain rfl := List.mem_singleton.1 hi
  have h1 := h w hw
  unfold wpOp
  simp only [ho]
  unfold wpList at h1
  split at h1
  · rename_i hw1
    rw [if_pos hw1]
    refine h1.imp (fun h2 => ?_) (fun h2 => h2)
    exact wp_other (Q1 := QH P ops Q S fuel (listed.setIfInBounds i true)) (fun _ _ _ h => h) (fun h => h) h2
  · rename_i hw1
    rw [if_neg hw1]
    exact h1
theorem hem (rs : List Nat) {S : World → Prop} (hr : Region.ready .any ops listed = rs) (hne : rs ≠ []) (h : ∀ k ∈ rs, ∃ o, ops[k]? = some o ∧ WL P ops (QH P ops Q S fuel (listed.setIfInBounds k true)) w0 H [o] n F) :
    WH P ops Q S w0 H (fuel + 1) listed n F := fun w hw => by
  refine wpAnyH_all hr hne (fun i hi => ?_)
  obtain ⟨o, ho, hk⟩ := h i hi
  have h1 := hk w hw
  unfold wpOp
  simp only [ho]
  unfold wpList at h1
  split at h1
  · rename_i hw1
    rw [if_pos hw1]
    refine h1.imp (fun h2 => ?_) (fun h2 => h2)
    exact wp_other (Q1 := QH P ops Q S fuel (listed.setIfInBounds i true)) (fun _ _ _ h => h) (fun h => h) h2
  · rename_i hw1
    rw [if_neg hw1]
    exact h1
theorem hem2 (i j : Nat) {S : World → Prop} {o1 o2 : Oper} (hr : Region.ready .any ops listed = [i, j]) (h1 : ops[i]? = some o1) (h2 : ops[j]? = some o2)
    (k1 : WL P ops (QH P ops Q S fuel (listed.setIfInBounds i true)) w0 H [o1] n F) (k2 : WL P ops (QH P ops Q S fuel (listed.setIfInBounds j true)) w0 H [o2] n F) : WH P ops Q S w0 H (fuel + 1) listed n F :=
  hem [i, j] hr (by simp) fun k hk => by
    rcases List.mem_cons.1 hk with rfl | hk
    · exact ⟨o1, h1, k1⟩
    · obtain rfl := List.mem_singleton.1 hk; exact ⟨o2, h2, k2⟩
theorem hem3 (i j l : Nat) {S : World → Prop} {o1 o2 o3 : Oper} (hr : Region.ready .any ops listed = [i, j, l]) (h1 : ops[i]? = some o1) (h2 : ops[j]? = some o2) (h3 : ops[l]? = some o3)
    (k1 : WL P ops (QH P ops Q S fuel (listed.setIfInBounds i true)) w0 H [o1] n F) (k2 : WL P ops (QH P ops Q S fuel (listed.setIfInBounds j true)) w0 H [o2] n F)
    (k3 : WL P ops (QH P ops Q S fuel (listed.setIfInBounds l true)) w0 H [o3] n F) : WH P ops Q S w0 H (fuel + 1) listed n F :=
  hem [i, j, l] hr (by simp) fun k hk => by
    rcases List.mem_cons.1 hk with rfl | hk
    · exact ⟨o1, h1, k1⟩
    · rcases List.mem_cons.1 hk with rfl | hk
      · exact ⟨o2, h2, k2⟩
      · obtain rfl := List.mem_singleton.1 hk; exact ⟨o3, h3, k3⟩
theorem hnil {S : World → Prop} (hS : ∀ w, Sat w0 H w → S w) (h : WH P ops Q S w0 H fuel listed n F) : WL P ops (QH P ops Q S fuel listed) w0 H [] n F := lnil fun w hw => ⟨hS w hw, h w hw⟩
theorem hend {S : World → Prop} (hr : Region.ready .any ops listed = []) (h : NQ Q w0 H .normal n F) : WH P ops Q S w0 H fuel listed n F := fun w hw => wpAnyH_done hr (h w hw) _
/-- the ways through a piece of code meet again -/
def CutQ (Q : Exit → Act → World → Prop) (w0 : World) (n : Nat) {Y : Type} (Hy : Y → List Ent) (sl : Y → List (Nat × Value)) (I : Y → Prop) (e : Exit) (a : Act) (w : World) : Prop :=
  match e with
  | .normal => ∃ y j, I y ∧ a = fr n (over j (sl y)) ∧ Sat w0 (Hy y) w
  | e => Q e a w
theorem ccut {Y : Type} {c : Code} (Hy : Y → List Ent) (sl : Y → List (Nat × Value)) (I : Y → Prop) (h1 : WC P (CutQ Q w0 n Hy sl I) w0 H c n F) (h2 : ∀ y j, I y → NQ Q w0 (Hy y) .normal n (over j (sl y))) : WC P Q w0 H c n F := fun w hw => by
  refine Code.wp_mono (fun e a w q => ?_) (h1 w hw)
  cases e <;> first | exact q | skip
  obtain ⟨y, j, hI, rfl, hs⟩ := q
  exact h2 y j hI w hs
theorem nCut {Y : Type} {Hy : Y → List Ent} {sl : Y → List (Nat × Value)} {I : Y → Prop} (y : Y) (hI : I y) (hF : AllEq F (sl y)) (hH : ∃ l : List Ent, l.Perm (Hy y) ∧ l.Sublist H) : NQ (CutQ Q w0 n Hy sl I) w0 H .normal n F := fun w hw => by
  obtain ⟨l, hp, hl⟩ := hH
  exact ⟨y, F, hI, by rw [over_same hF], (hw.sub hl).perm hp.symm⟩
end
end Jal
/- bytes: the comparison of two texts of bytes, and slices of arrays -/
namespace Jal
open Go Go.RowKit
def lexI : List Int → List Int → Int
  | [], [] => 0
  | [], _ :: _ => -1
  | _ :: _, [] => 1
  | a :: ar, b :: bs => bif decide (a < b) then -1 else bif decide (b < a) then 1 else lexI ar bs
theorem lexI_eq : ∀ (xs ys : List Int), (∀ x ∈ xs, 0 ≤ x ∧ x ≤ 255) → (∀ x ∈ ys, 0 ≤ x ∧ x ≤ 255) → Lib.compareBytes (Lib.bytesOf xs) (Lib.bytesOf ys) = lexI xs ys
  | [], [], _, _ => rfl
  | [], _ :: _, _, _ => rfl
  | _ :: _, [], _, _ => rfl
  | a :: ar, b :: bs, h, k => by
    have ih := lexI_eq ar bs (fun x hx => h x (by simp [hx])) (fun x hx => k x (by simp [hx]))
    have ha := h a (by simp)
    have hb := k b (by simp)
    have e : ∀ x y : Int, 0 ≤ x ∧ x ≤ 255 → 0 ≤ y ∧ y ≤ 255 → (x.toNat.toUInt8 < y.toNat.toUInt8 ↔ x < y) := fun x y hx hy => by
      rw [UInt8.lt_iff_toNat_lt]
      have h1 : x.toNat.toUInt8.toNat = x.toNat := by simp [Nat.toUInt8, UInt8.toNat_ofNat]; omega
      have h2 : y.toNat.toUInt8.toNat = y.toNat := by simp [Nat.toUInt8, UInt8.toNat_ofNat]; omega
      rw [h1, h2]; omega
    show Lib.compareBytes (a.toNat.toUInt8 :: Lib.bytesOf ar) (b.toNat.toUInt8 :: Lib.bytesOf bs) = _
    simp only [Lib.compareBytes, lexI, e a b ha hb, e b a hb ha, ih, cond_eq_ite, decide_eq_true_eq]
/-- a slice of bytes in memory -/
def BySl (w : World) (p : Option Addr) (n : Nat) (xs : List Int) : Prop := xs.length = n ∧ Sl w p n 1 (fun i => [.int .u8 (xs.getD i 0)])
theorem BySl.load {P : Program} {w : World} {p : Option Addr} {n c : Nat} {xs : List Int} (h : BySl w p n xs) :
    (Extern.Bytes.bytesOf (.slice p n c)).run P w = .ok ⟨(Lib.bytesOf xs).toArray⟩ w := by
  rcases h.2.h with h0 | ⟨b, o, rfl, _, hm⟩
  · subst h0
    have hx : xs = [] := List.eq_nil_of_length_eq_zero h.1
    subst hx
    cases p with
    | none => rfl
    | some a => rfl
  · have hl := Lib.run_loadBytesX (P := P) w xs ⟨b, o, none⟩ .empty (fun j x hj => by
      have hjl : j < xs.length := (List.getElem?_eq_some_iff.1 hj).1
      have h1 := (hm j (by rw [← h.1]; exact hjl)).c0
      rw [Addr.add_off]
      rw [Nat.mul_one] at h1
      rw [h1, List.getD_eq_getElem?_getD, hj]
      rfl)
    rw [h.1] at hl
    show (Extern.Bytes.loadBytes ⟨b, o, none⟩ n .empty).run P w = _
    rw [hl]
    congr 1
    apply ByteArray.ext
    simp
theorem run_compare {P : Program} {w : World} {p q : Option Addr} {n m c d : Nat} {xs ys : List Int} (hx : BySl w p n xs) (hy : BySl w q m ys) (hxr : ∀ x ∈ xs, 0 ≤ x ∧ x ≤ 255) (hyr : ∀ x ∈ ys, 0 ≤ x ∧ x ≤ 255) :
    (Extern.BytealgCompare.compare #[.slice p n c, .slice q m d]).run P w = .ok (.int .i64 (lexI xs ys)) w := by
  change Sem.run P (do pure (goInt (Extern.BytealgCompare.cmp (← Extern.Bytes.bytesOf (.slice p n c)) (← Extern.Bytes.bytesOf (.slice q m d))))) w = _
  simp only [Sem.run_bind, hx.load, hy.load, Sem.run_pure, Result.andThen, Lib.cmp_eq]
  rw [lexI_eq xs ys hxr hyr]
  rfl
/-- a function without a body that the model knows -/
structure ExternAt (P : Program) (f : FuncId) (e : Array Value → Sem Value) : Prop where
  h : ∃ fn, P.funcs[f]? = some fn ∧ (fn.name == "runtime.NumGoroutine") = false ∧ fn.body.isNone = true ∧ Extern.findNext fn = none ∧ Extern.find fn = some e
section
variable {P : Program} {C : World → Prop} {ρ : Operand → Value} {d : Option Tmp} {ty : TypeId} {pos : String} {af : Array Edge} {g : Option (Nat × Bool)}
theorem clx {f : FuncId} {fx : Operand} {xs : List Operand} {ats : Array TypeId} {args : List Value} {v : Value} {e : Array Value → Sem Value} (hb : ExternAt P f e) (hfx : ρ fx = .func (.func f) #[] #[])
    (hx : xs.map ρ = args) (hc : ∀ w, C w → (e args.toArray).run P w = .ok v w) :
    Qu P C ρ ⟨d, .call { callee := .value fx, args := xs.toArray, argTypes := ats }, ty, pos, af, g⟩ v :=
  qu_of_run fun w hw => by
    obtain ⟨fn, h1, h2, h3, h4, h5⟩ := hb.h
    have hr := run_callFunc_extern h1 h2 h3 h4 h5 args.toArray w
    rw [hc w hw] at hr
    simp [execOp, resolve, hfx, hx, Deferred.ofValue, invoke, hr, Result.andThen]
/-- an array's slice, whole -/
theorem slall {t e : TypeId} {len : Nat} {x : Operand} {b o : Nat} {sz : Nat} (hu : P.underlying t = some (.array len e)) (hs : ∀ w, (Go.sizeOf e).run P w = .ok sz w) (hx : ρ x = .pointer (some ⟨b, o, none⟩)) :
    Qu P C ρ ⟨d, .slice t x none none none, ty, pos, af, g⟩ (.slice (some ⟨b, o, none⟩) len len) :=
  qu_of_run fun w _ => by
    by_cases hl : len = 0
    · subst hl
      simp [execOp, hx, Instr.sliceAt, Instr.sliceBounds, run_underlying hu, Instr.sureAddr, hs]
    · simp [execOp, hx, Instr.sliceAt, Instr.sliceBounds, run_underlying hu, Instr.sureAddr, hs, hl, Addr.add_off]
end
theorem arr_get {k : IntKind} {n : Nat} {f : Nat → Int} {i : Nat} (h : i < n) : (arr k n f)[i]? = some (.int k (f i)) := by
  unfold arr
  rw [List.getElem?_map, List.getElem?_range h]; rfl
def tl (n : Nat) (f : Nat → Int) : List Int := (List.range n).map f
theorem tl_getD {n : Nat} {f : Nat → Int} {i : Nat} (h : i < n) : (tl n f).getD i 0 = f i := by
  unfold tl
  rw [List.getD_eq_getElem?_getD, List.getElem?_map, List.getElem?_range h]; rfl
/-- an own array of bytes, ar a slice -/
theorem bySl_own {w0 w : World} {H : List Ent} {i n : Nat} {b : Nat} {f : Nat → Int} {t : TypeId} (hw : Sat w0 H w) (hi : H[i]? = some ⟨b, arr .u8 n f, t⟩) : BySl w (some ⟨b, 0, none⟩) n (tl n f) :=
  ⟨by simp [tl], SlIn.sl (.inr ⟨_, List.mem_of_getElem? hi, rfl, fun i hi j v hv => by
    match j with
    | 0 =>
      have hv' : Value.int .u8 ((tl n f).getD i 0) = v := by simpa using hv
      rw [tl_getD hi] at hv'
      show (arr .u8 n f)[i * 1 + 0]? = some v
      rw [Nat.mul_one, Nat.add_zero, arr_get hi, hv']
    | j + 1 => cases hv⟩) hw⟩
theorem tl_mem {n : Nat} {f : Nat → Int} (h : ∀ j, j < n → 0 ≤ f j ∧ f j ≤ 255) : ∀ x ∈ tl n f, 0 ≤ x ∧ x ≤ 255 := by
  intro x hx
  obtain ⟨j, hj, rfl⟩ := List.mem_map.1 hx
  exact h j (List.mem_range.1 hj)
theorem BySl.keptS {w0 w : World} {H : List Ent} {p : Option Addr} {n : Nat} {xs : List Int} (h : BySl w0 p n xs) (hw : Sat w0 H w) : BySl w p n xs := ⟨h.1, h.2.keptS hw⟩
theorem tl_cons (n : Nat) (f : Nat → Int) : tl (n + 1) f = f 0 :: tl n (fun j => f (j + 1)) := by
  unfold tl
  rw [List.range_succ_eq_map, List.map_cons, List.map_map]; rfl
theorem lexI_same : ∀ (n : Nat) (f g : Nat → Int), (∀ j, j < n → f j = g j) → lexI (tl n f) (tl n g) = 0
  | 0, _, _, _ => rfl
  | n + 1, f, g, h => by
    rw [tl_cons, tl_cons]
    have h0 := h 0 (by omega)
    have ih := lexI_same n (fun j => f (j + 1)) (fun j => g (j + 1)) (fun j hj => h (j + 1) (by omega))
    simp only [lexI, h0, ih, Int.lt_irrefl, decide_false, cond_false]
theorem lexI_first : ∀ (n i : Nat) (f g : Nat → Int), i < n → (∀ j, j < i → f j = g j) → f i ≠ g i → lexI (tl n f) (tl n g) = bif decide (f i < g i) then -1 else 1
  | 0, _, _, _, hi, _, _ => by omega
  | n + 1, 0, f, g, _, _, hne => by
    rw [tl_cons, tl_cons]
    simp only [lexI]
    by_cases h1 : f 0 < g 0
    · simp [h1]
    · have h2 : g 0 < f 0 := by omega
      simp [h1, h2]
  | n + 1, i + 1, f, g, hi, h, hne => by
    rw [tl_cons, tl_cons]
    have h0 := h 0 (by omega)
    have ih := lexI_first n i (fun j => f (j + 1)) (fun j => g (j + 1)) (by omega) (fun j hj => h (j + 1) (by omega)) hne
    simp only [lexI, h0, Int.lt_irrefl, decide_false, cond_false]
    exact ih
def lessT (f g : Nat → Int) : Bool := decide (lexI (tl 16 f) (tl 16 g) < 0)
theorem less_first {i : Nat} {f g : Nat → Int} (hi : i < 16) (h : ∀ j, j < i → f j = g j) (hne : f i ≠ g i) : decide (f i < g i) = lessT f g := by
  unfold lessT
  rw [lexI_first 16 i f g hi h hne]
  by_cases h1 : f i < g i <;> simp [h1]
theorem less_none {f g : Nat → Int} (h : ∀ j, j < 16 → f j = g j) : lessT f g = false := by
  unfold lessT
  rw [lexI_same 16 f g h]; rfl
def sortedT (n : Nat) (t : Nat → Nat → Int) : Bool := (List.range (n - 1)).all fun j => lessT (t j) (t (j + 1))
theorem sortedT_iff {n : Nat} {t : Nat → Nat → Int} : sortedT n t = true ↔ ∀ j, j + 1 < n → lessT (t j) (t (j + 1)) = true := by
  unfold sortedT
  rw [List.all_eq_true]
  refine ⟨fun h j hj => h j (List.mem_range.2 (by omega)), fun h j hj => h j (by have := List.mem_range.1 hj; omega)⟩
theorem sortedT_no {n j : Nat} {t : Nat → Nat → Int} (hj : j + 1 < n) (h : lessT (t j) (t (j + 1)) = false) : sortedT n t = false := by
  cases hs : sortedT n t with
  | false => rfl
  | true => have := sortedT_iff.1 hs j hj; rw [h] at this; cases this
end Jal
/- further laws, one an operation: slices of slices and of rows, copy, a text's bytes handed to a call -/
namespace Jal
open Go Go.RowKit
section
variable {P : Program} {C : World → Prop} {ρ : Operand → Value} {d : Option Tmp} {ty : TypeId} {pos : String} {af : Array Edge} {g : Option (Nat × Bool)}
theorem cvr {s t : TypeId} {x : Operand} {k k' : IntKind} {a r : Int} (hs : ∃ D, P.underlying s = some D) (ht : P.underlying t = some (.int k')) (hx : ρ x = .int k a) (hr : k'.wrap a = r) : Qu P C ρ ⟨d, .convert s t x, ty, pos, af, g⟩ (.int k' r) := by
  subst hr; exact cvi hs ht hx
/-- a conversion of a number without a sign -/
theorem cvu {s t : TypeId} {x : Operand} {k k' : IntKind} {m a : Nat} (h : Uk k' m) (hs : ∃ D, P.underlying s = some D) (ht : P.underlying t = some (.int k')) (hx : ρ x = .int k (a : Int)) : Qu P C ρ ⟨d, .convert s t x, ty, pos, af, g⟩ (.int k' ((a % 2 ^ m : Nat) : Int)) :=
  cvr hs ht hx (h.w a)
theorem cvus {s t : TypeId} {x : Operand} {k k' : IntKind} {m a : Nat} (h : Uk k' m) (hs : ∃ D, P.underlying s = some D) (ht : P.underlying t = some (.int k')) (hx : ρ x = .int k (a : Int)) (ha : a < 2 ^ m) : Qu P C ρ ⟨d, .convert s t x, ty, pos, af, g⟩ (.int k' (a : Int)) :=
  cvr hs ht hx (h.id ha)
theorem usub {k : IntKind} {m a b : Nat} {t t' : TypeId} {x y : Operand} (h : Uk k m) (hb : b ≤ a) (ha : a < 2 ^ m) (hx : ρ x = .int k (a : Int)) (hy : ρ y = .int k (b : Int)) : Qu P C ρ ⟨d, .binOp .sub t x y t', ty, pos, af, g⟩ (.int k ((a - b : Nat) : Int)) := by
  have h1 := sub (P := P) (C := C) (d := d) (ty := ty) (pos := pos) (af := af) (g := g) (t := t) (t' := t') hx hy
  rwa [show (a : Int) - (b : Int) = ((a - b : Nat) : Int) by omega, h.id (by omega)] at h1
theorem nadd {a b : Nat} {t t' : TypeId} {x y : Operand} (hx : ρ x = .int .i64 (a : Int)) (hy : ρ y = .int .i64 (b : Int)) (h : a + b ≤ 9223372036854775807) : Qu P C ρ ⟨d, .binOp .add t x y t', ty, pos, af, g⟩ (.int .i64 ((a + b : Nat) : Int)) := by
  have h1 := addn (P := P) (C := C) (d := d) (ty := ty) (pos := pos) (af := af) (g := g) (t := t) (t' := t') hx hy (ri (by omega) (by omega))
  rwa [← Int.natCast_add] at h1
theorem nmul {a b : Nat} {t t' : TypeId} {x y : Operand} (hx : ρ x = .int .i64 (a : Int)) (hy : ρ y = .int .i64 (b : Int)) (h : a * b ≤ 9223372036854775807) : Qu P C ρ ⟨d, .binOp .mul t x y t', ty, pos, af, g⟩ (.int .i64 ((a * b : Nat) : Int)) := by
  have h1 := mul (P := P) (C := C) (d := d) (ty := ty) (pos := pos) (af := af) (g := g) (t := t) (t' := t') hx hy
  rwa [← Int.natCast_mul, ri (by omega) (by omega)] at h1
theorem nsub {a b : Nat} {t t' : TypeId} {x y : Operand} (hx : ρ x = .int .i64 (a : Int)) (hy : ρ y = .int .i64 (b : Int)) (hb : b ≤ a) (h : a ≤ 9223372036854775807) : Qu P C ρ ⟨d, .binOp .sub t x y t', ty, pos, af, g⟩ (.int .i64 ((a - b : Nat) : Int)) := by
  have h1 := subn (P := P) (C := C) (d := d) (ty := ty) (pos := pos) (af := af) (g := g) (t := t) (t' := t') hx hy (ri (by omega) (by omega))
  rwa [show (a : Int) - (b : Int) = ((a - b : Nat) : Int) by omega] at h1
theorem nilc {x : Operand} {p : Addr} (hx : ρ x = .pointer (some p)) : Qu P C ρ ⟨d, .nilCheck x, ty, pos, af, g⟩ (.pointer (some p)) :=
  qu_of_run fun w _ => by simp [execOp, hx]
theorem fldv {t : TypeId} {x : Operand} {f k : Nat} {fs : Array Field} {cs vs : List Value} {inf : Field} (hu : P.underlying t = some (.struct fs)) (hf : fs[f]? = some inf) (ha : ∀ w, (isAgg inf.type).run P w = .ok true w) (hk : ∀ w, (Go.sizeOf inf.type).run P w = .ok k w)
    (hx : ρ x = .agg cs.toArray) (hv : ((cs.drop inf.offset).take k) = vs) (hl : vs.length = k) : Qu P C ρ ⟨d, .field t x f, ty, pos, af, g⟩ (.agg vs.toArray) :=
  qu_of_run fun w _ => by
    subst hv
    simp only [List.length_take, List.length_drop] at hl
    have hle : inf.offset + k ≤ cs.length ∨ k = 0 := by omega
    have e : cs.toArray.extract inf.offset (inf.offset + k) = ((cs.drop inf.offset).take k).toArray := by
      simp [List.extract_eq_take_drop]
    simp [execOp, hx, Instr.field, run_underlying hu, hf, asAgg, part, ha, hk, e]
/-- a part of a slice -/
theorem sllh {t e : TypeId} {sz : Nat} {x y z : Operand} {b o n c l h : Nat} {k k' : IntKind} (hu : P.underlying t = some (.slice e)) (hs : ∀ w, (Go.sizeOf e).run P w = .ok sz w) (hx : ρ x = .slice (some ⟨b, o, none⟩) n c)
    (hy : ρ y = .int k (l : Int)) (hz : ρ z = .int k' (h : Int)) (hl : l ≤ h) (hh : h ≤ c) (hc : l < c) :
    Qu P C ρ ⟨d, .slice t x (some y) (some z) none, ty, pos, af, g⟩ (.slice (some ⟨b, o + l * sz, none⟩) (h - l) (c - l)) :=
  qu_of_run fun w _ => by
    have hb1 : (Instr.sliceBound (.int k' (h : Int)) c .sliceAcap).run P w = .ok h w := by
      have : (0 : Int) ≤ h ∧ (h : Int) ≤ c := by omega
      simp [Instr.sliceBound, asIntOf, hh]
    have hb2 : (Instr.sliceBound (.int k (l : Int)) h .sliceB).run P w = .ok l w := by
      have : (0 : Int) ≤ l ∧ (l : Int) ≤ h := by omega
      simp [Instr.sliceBound, asIntOf, hl]
    have hcm : ¬ c = l := by omega
    simp [execOp, hx, hy, hz, Instr.sliceAt, Instr.slice, Instr.sliceBounds, run_underlying hu, hs, hb1, hb2, hcm, Addr.add_off]
theorem sllhe {t e : TypeId} {sz : Nat} {x y z : Operand} {b o n c l h o' m c' : Nat} {k k' : IntKind} (hu : P.underlying t = some (.slice e)) (hs : ∀ w, (Go.sizeOf e).run P w = .ok sz w) (hx : ρ x = .slice (some ⟨b, o, none⟩) n c)
    (hy : ρ y = .int k (l : Int)) (hz : ρ z = .int k' (h : Int)) (hl : l ≤ h) (hh : h ≤ c) (hc : l < c) (ho : o + l * sz = o') (hm : h - l = m) (hc' : c - l = c') :
    Qu P C ρ ⟨d, .slice t x (some y) (some z) none, ty, pos, af, g⟩ (.slice (some ⟨b, o', none⟩) m c') := by
  subst ho; subst hm; subst hc'; exact sllh hu hs hx hy hz hl hh hc
/-- a part of a row -/
theorem slarr {t e : TypeId} {len sz : Nat} {x y z : Operand} {b o l h : Nat} {k k' : IntKind} (hu : P.underlying t = some (.array len e)) (hs : ∀ w, (Go.sizeOf e).run P w = .ok sz w) (hx : ρ x = .pointer (some ⟨b, o, none⟩))
    (hy : ρ y = .int k (l : Int)) (hz : ρ z = .int k' (h : Int)) (hl : l ≤ h) (hh : h ≤ len) (hc : l < len) :
    Qu P C ρ ⟨d, .slice t x (some y) (some z) none, ty, pos, af, g⟩ (.slice (some ⟨b, o + l * sz, none⟩) (h - l) (len - l)) :=
  qu_of_run fun w _ => by
    have hb1 : (Instr.sliceBound (.int k' (h : Int)) len .sliceAlen).run P w = .ok h w := by
      have : (0 : Int) ≤ h ∧ (h : Int) ≤ len := by omega
      simp [Instr.sliceBound, asIntOf, hh]
    have hb2 : (Instr.sliceBound (.int k (l : Int)) h .sliceB).run P w = .ok l w := by
      have : (0 : Int) ≤ l ∧ (l : Int) ≤ h := by omega
      simp [Instr.sliceBound, asIntOf, hl]
    have hcm : ¬ len = l := by omega
    simp [execOp, hx, hy, hz, Instr.sliceAt, Instr.sliceBounds, run_underlying hu, Instr.sureAddr, hs, hb1, hb2, hcm, Addr.add_off]
/-- the first part of a slice, with no room behind it -/
theorem sl3 {t e : TypeId} {sz : Nat} {x z z' : Operand} {b n c h : Nat} {k k' : IntKind} (hu : P.underlying t = some (.slice e)) (hs : ∀ w, (Go.sizeOf e).run P w = .ok sz w) (hx : ρ x = .slice (some ⟨b, 0, none⟩) n c)
    (hz : ρ z = .int k (h : Int)) (hz' : ρ z' = .int k' (h : Int)) (hh : h ≤ c) :
    Qu P C ρ ⟨d, .slice t x none (some z) (some z'), ty, pos, af, g⟩ (.slice (some ⟨b, 0, none⟩) h h) :=
  qu_of_run fun w _ => by
    have hb1 : (Instr.sliceBound (.int k' (h : Int)) c .slice3Acap).run P w = .ok h w := by
      have : (0 : Int) ≤ h ∧ (h : Int) ≤ c := by omega
      simp [Instr.sliceBound, asIntOf, hh]
    have hb2 : (Instr.sliceBound (.int k (h : Int)) h .slice3B).run P w = .ok h w := by
      simp [Instr.sliceBound, asIntOf]
    simp [execOp, hx, hz, hz', Instr.sliceAt, Instr.slice, Instr.sliceBounds, run_underlying hu, hs, hb1, hb2, Addr.add_off]
/-- a slice's first places as a row -/
theorem s2ap {t e : TypeId} {len : Nat} {x : Operand} {p : Option Addr} {n c : Nat} (hu : P.underlying t = some (.array len e)) (hx : ρ x = .slice p n c) (hn : len ≤ n) :
    Qu P C ρ ⟨d, .sliceToArrayPointer t x, ty, pos, af, g⟩ (.pointer p) :=
  qu_of_run fun w _ => by
    have : ¬ n < len := by omega
    simp [execOp, hx, Instr.arrayAt, run_underlying hu, this]
end
section
variable {P : Program} {ops : Array Oper} {Q : Exit → Act → World → Prop} {w0 : World} {H : List Ent} {rest : List Oper} {n : Nat} {F : Nat → Value} {d : Nat} {ty : TypeId} {pos : String} {af : Array Edge}
/-- copy into a block of our own -/
theorem lcpy (i : Nat) {t t' e : TypeId} {x y : Operand} {b o m c m' c' : Nat} {cur cs cs' : List Value} {te : TypeId} {a : Addr} (hu : P.underlying t = some (.slice e)) (hs : (P.info? e).map (·.size) = some 1) (hi : H[i]? = some ⟨b, cur, te⟩)
    (hx : ev n F x = .slice (some ⟨b, o, none⟩) m c) (hy : ev n F y = .slice (some a) m' c') (hl : cs.length = Nat.min m' m) (hm : ∀ w, Sat w0 H w → Mem w a cs) (hfit : o + cs.length ≤ cur.length) (h1 : ∀ v ∈ cs, v.oneCell' = true)
    (hcs : cur.take o ++ cs ++ cur.drop (o + cs.length) = cs') (h : WL P ops Q w0 (H.set i ⟨b, cs', te⟩) rest n (upd F d (.int .i64 (cs.length : Int)))) :
    WL P ops Q w0 H (⟨some d, .call { callee := .builtin .copy, args := #[x, y], argTypes := #[t, t'] }, ty, pos, af, none⟩ :: rest) n F := fun w hw => wpList_plain rfl fun K hK => by
  have hb := (hw.own _ (List.mem_of_getElem? hi)).2
  have hr0 := run_copy_row (P := P) w t t' ty e b o m c a m' c' cur.toArray te cs hu hs hb hl (hm w hw) (by simpa using hfit) h1
  have hr : (execOp (ev n F) ⟨some d, .call { callee := .builtin .copy, args := #[x, y], argTypes := #[t, t'] }, ty, pos, af, none⟩).run P w = .ok (.value (.int .i64 (cs.length : Int))) (w.setRow b cs'.toArray) := by
    subst hcs
    unfold execOp
    simp only [resolve, invoke, builtin, Sem.run_bind, Sem.run_pure, Result.andThen_ok, List.map_toArray, List.map_cons, List.map_nil, hx, hy]
    rw [hr0]; rfl
  unfold Oper.wp
  rw [fr_eval, hr]
  exact hK _ _ (by rw [fr_put]; exact h _ (hw.set hi cs'))
/-- what a call hands back, with what is known of it in the world behind the call -/
def RetX (X : Value → World → Prop) (w : World) : Ending → World → Prop := fun e w' => ∃ v, e = .returned v ∧ X v w' ∧ Below w.heap.size w w'
theorem run_enter {f : FuncId} {fx : Operand} {xs : List Operand} {ats : Array TypeId} {args : List Value} (hb : HasBody P f) (hfx : ev n F fx = .func (.func f) #[] #[]) (hx : xs.map (ev n F) = args) (w : World) :
    (execOp (ev n F) ⟨some d, .call { callee := .value fx, args := xs.toArray, argTypes := ats }, ty, pos, af, none⟩).run P w = .ok (.enter f args.toArray) w := by
  obtain ⟨fn, h1, h2, h3⟩ := hb.h
  obtain ⟨c, hcb⟩ := Option.isSome_iff_exists.1 h3
  have h2' : fn.name ≠ "runtime.NumGoroutine" := by simpa using h2
  simp [execOp, resolve, hfx, hx, Deferred.ofValue, invoke, callFunc, Sem.run, program, h1, h2', hcb]
/-- a call whose answer the next call takes -/
theorem lcc {f f2 : FuncId} {fx fx2 : Operand} {xs xs2 : List Operand} {ats ats2 : Array TypeId} {args : List Value} {args2 : Value → List Value} {X : Value → World → Prop} {φ : Value → List Ent → Prop} {d2 : Nat} {ty2 : TypeId} {pos2 : String} {af2 : Array Edge}
    (hb : HasBody P f) (hfx : ev n F fx = .func (.func f) #[] #[]) (hx : xs.map (ev n F) = args) (hc : ∀ w, Sat w0 H w → Calls P f args.toArray w (RetX X w))
    (hb2 : HasBody P f2) (hfx2 : ∀ v, ev n (upd F d v) fx2 = .func (.func f2) #[] #[]) (hx2 : ∀ v, xs2.map (ev n (upd F d v)) = args2 v) (hc2 : ∀ v w, Sat w0 H w → X v w → Calls P f2 (args2 v).toArray w (RetM φ w))
    (h : ∀ v1 v2 Hn, φ v2 Hn → WL P ops Q w0 (H ++ Hn) rest n (upd (upd F d v1) d2 v2)) :
    WL P ops Q w0 H (⟨some d, .call { callee := .value fx, args := xs.toArray, argTypes := ats }, ty, pos, af, none⟩ :: ⟨some d2, .call { callee := .value fx2, args := xs2.toArray, argTypes := ats2 }, ty2, pos2, af2, none⟩ :: rest) n F := fun w hw => wpList_plain rfl fun K hK => by
  unfold Oper.wp
  rw [fr_eval, run_enter hb hfx hx w]
  refine (hc w hw).mono fun e w' ⟨v, h4, h5, h6⟩ => ?_
  subst h4
  have hw' := hw.step h6
  refine hK _ _ (wpList_plain rfl fun K hK => ?_)
  unfold Oper.wp
  rw [fr_put, fr_eval, run_enter hb2 (hfx2 v) (hx2 v) w']
  refine (hc2 v w' hw' h5).mono fun e w'' ⟨v2, Hn, h7, h8, h9⟩ => ?_
  subst h7
  exact hK _ _ (by rw [fr_put]; exact h v v2 Hn h8 _ (hw'.join h9))
/-- bytes as cells -/
def bN (l : List Nat) : List Value := l.map fun y : Nat => Value.int .u8 (y : Int)
theorem bN_get (l : List Nat) (i : Nat) : (bN l)[i]? = (l[i]?).map fun y : Nat => Value.int .u8 (y : Int) := by unfold bN; rw [List.getElem?_map]
theorem bN_len (l : List Nat) : (bN l).length = l.length := by unfold bN; rw [List.length_map]
theorem bN_one (l : List Nat) : ∀ u ∈ bN l, u.oneCell' = true := by intro u hu; obtain ⟨y, _, rfl⟩ := List.mem_map.1 hu; rfl
theorem bN_append (a b : List Nat) : bN (a ++ b) = bN a ++ bN b := by unfold bN; rw [List.map_append]
def strL (s : ByteArray) : List Nat := s.data.toList.map (·.toNat)
/-- a text's bytes, made for the call behind it -/
theorem ls2b {t t2 e : TypeId} {x : Operand} {s : ByteArray} {u : TypeDesc} {f2 : FuncId} {fx2 : Operand} {xs2 : List Operand} {ats2 : Array TypeId} {args2 : Value → List Value} {φ : Value → List Ent → Prop} {d2 : Nat} {ty2 : TypeId} {pos2 : String} {af2 : Array Edge}
    (hs : P.underlying t = some u) (ht : P.underlying t2 = some (.slice e)) (he : P.underlying e = some (.int .u8)) (hx : ev n F x = .string s)
    (hb2 : HasBody P f2) (hfx2 : ∀ v, ev n (upd F d v) fx2 = .func (.func f2) #[] #[]) (hx2 : ∀ v, xs2.map (ev n (upd F d v)) = args2 v)
    (hc2 : ∀ b cap w, Sat w0 H w → b < w.heap.size → s.size ≤ cap → Mem w ⟨b, 0, none⟩ (bN (strL s)) → Calls P f2 (args2 (.slice (some ⟨b, 0, none⟩) s.size cap)).toArray w (RetM φ w))
    (h : ∀ v1 v2 Hn, φ v2 Hn → WL P ops Q w0 (H ++ Hn) rest n (upd (upd F d v1) d2 v2)) :
    WL P ops Q w0 H (⟨some d, .convert t t2 x, ty, pos, af, none⟩ :: ⟨some d2, .call { callee := .value fx2, args := xs2.toArray, argTypes := ats2 }, ty2, pos2, af2, none⟩ :: rest) n F := fun w hw => wpList_plain rfl fun K hK => by
  have hr : (execOp (ev n F) ⟨some d, .convert t t2 x, ty, pos, af, none⟩).run P w = .ok (.value (.slice (some ⟨w.heap.size, 0, none⟩) s.size (Go.grownCap w s.size 0 e))) (Lib.bytesWorld w e s) := by
    unfold execOp
    simp only [Sem.run_bind, hx]
    rw [Lib.run_convert_string_bytes w t t2 e s hs ht he]; rfl
  unfold Oper.wp
  rw [fr_eval, hr]
  have h6 : Below w.heap.size w (Lib.bytesWorld w e s) := ⟨rfl, rfl, rfl, by rw [Lib.bytesWorld_size]; omega, fun k hk => Lib.bytesWorld_at_old w e s k hk⟩
  have hw' := hw.step h6
  refine hK _ _ (wpList_plain rfl fun K hK => ?_)
  unfold Oper.wp
  rw [fr_put, fr_eval, run_enter hb2 (hfx2 _) (hx2 _) _]
  have hcap : s.size ≤ Go.grownCap w s.size 0 e := by
    unfold Go.grownCap Question.cut
    simp
  have hmem : Mem (Lib.bytesWorld w e s) ⟨w.heap.size, 0, none⟩ (bN (strL s)) := fun j v hv => by
    rw [Addr.add_off, Nat.zero_add]
    have hj : j < s.size := by
      have := (List.getElem?_eq_some_iff.1 hv).1
      rw [bN_len] at this
      simpa [strL] using this
    have hj2 : j < s.data.size := hj
    rw [Lib.bytesWorld_cell w e s j hj, ← hv, bN_get]
    have hj3 : s.data[j]? = some s.data[j] := Array.getElem?_eq_getElem hj2
    simp [strL, List.getD_eq_getElem?_getD, hj3]
  refine (hc2 w.heap.size _ _ hw' (by rw [Lib.bytesWorld_size]; omega) hcap hmem).mono fun e w'' ⟨v2, Hn, h7, h8, h9⟩ => ?_
  subst h7
  exact hK _ _ (by rw [fr_put]; exact h _ v2 Hn h8 _ (hw'.join h9))
end
/-- the end of a function without an answer, that wrote into a block of its caller's -/
theorem finSn {P : Program} {w0 : World} {H : List Ent} {n : Nat} {F : Nat → Value} {fn : Func} {φ : Value → List Ent → Prop} (Hn : List Ent) (hr : fn.results = #[]) (hs : ∃ l : List Ent, l.Perm Hn ∧ l.Sublist H) (hφ : φ (.tuple #[]) Hn) :
    NQ (bodyPost P fn (RetS w0 φ)) w0 H .normal n F := fun w hw => by
  obtain ⟨l, hp, hl⟩ := hs
  have hv : (results fn (fr n F).tmps).run P w = .ok (.tuple #[]) w := by
    simp [results, hr]
  exact ⟨rfl, _, hv, _, Hn, rfl, hφ, (hw.sub hl).perm hp.symm⟩
end Jal
/- bytes and words in memory, plain -/
namespace Jal
open Go Go.RowKit
theorem wrapneg {n : Nat} (h : 1 ≤ n ∧ n ≤ 31) : IntKind.u64.wrap (-(n : Int)) = ((18446744073709551616 - n : Nat) : Int) := by
  unfold IntKind.wrap
  simp [IntKind.bits, IntKind.signed]
  omega
theorem land31 {n : Nat} (h : 1 ≤ n ∧ n ≤ 31) : (18446744073709551616 - n) &&& 31 = 32 - n := by
  rw [show (31 : Nat) = 2 ^ 5 - 1 from rfl, Nat.and_two_pow_sub_one_eq_mod]; omega
theorem bigN_snoc (l : List Nat) (x : Nat) : bigN (l ++ [x]) = bigN l * 2 ^ 8 % 2 ^ 64 ||| x := by unfold bigN; rw [List.foldl_append]; rfl
theorem bigN_b (l : List Nat) (h : OkB l) : bigN l < 2 ^ 64 := by
  suffices ∀ (l : List Nat) (a : Nat), OkB l → a < 2 ^ 64 → l.foldl (fun a x => a * 2 ^ 8 % 2 ^ 64 ||| x) a < 2 ^ 64 from this l 0 h (by decide)
  intro l
  induction l with
  | nil => intro a _ h; exact h
  | cons x l ih =>
    intro a hl ha
    have hx := hl x (by simp)
    exact ih _ (fun y hy => hl y (by simp [hy])) (or_b (Nat.mod_lt _ (by decide)) (by omega))
theorem OkB.take {l : List Nat} (h : OkB l) (i : Nat) : OkB (l.take i) := fun x hx => h x (List.mem_of_mem_take hx)
theorem OkB.drop {l : List Nat} (h : OkB l) (i : Nat) : OkB (l.drop i) := fun x hx => h x (List.mem_of_mem_drop hx)
theorem OkB.getD {l : List Nat} (h : OkB l) (i : Nat) : l.getD i 0 < 256 := by
  rw [List.getD_eq_getElem?_getD]
  cases hi : l[i]? with
  | none => decide
  | some x => exact h x (List.mem_of_getElem? hi)
theorem take_snoc {l : List Nat} {i : Nat} (h : i < l.length) : l.take (i + 1) = l.take i ++ [l.getD i 0] := by
  rw [List.take_add_one, List.getD_eq_getElem?_getD, List.getElem?_eq_getElem h]; rfl
/-- bytes in memory -/
structure By (w : World) (b o : Nat) (l : List Nat) : Prop where
  lt : b < w.heap.size
  mem : Mem w ⟨b, o, none⟩ (bN l)
  ok : OkB l
theorem By.at {w : World} {b o i : Nat} {l : List Nat} (h : By w b o l) (hi : i < l.length) : w.cell? ⟨b, o + i, none⟩ = some (.int .u8 (l.getD i 0 : Nat)) := by
  refine h.mem.at ?_
  rw [bN_get, List.getD_eq_getElem?_getD, List.getElem?_eq_getElem hi]; rfl
theorem By.kept {w w' : World} {b o : Nat} {l : List Nat} (h : By w b o l) (hb : Below w.heap.size w w') : By w' b o l := ⟨Nat.lt_of_lt_of_le h.lt hb.size, h.mem.kept hb h.lt, h.ok⟩
theorem By.keptS {w0 w : World} {H : List Ent} {b o : Nat} {l : List Nat} (h : By w0 b o l) (hw : Sat w0 H w) : By w b o l := h.kept hw.below
theorem By.part {w : World} {b o : Nat} {l : List Nat} (h : By w b o l) (i k : Nat) : By w b (o + i) ((l.drop i).take k) :=
  ⟨h.lt, fun j v hv => by
    rw [Addr.add_off]
    rw [bN_get] at hv
    have hj : j < k := by
      rcases Nat.lt_or_ge j k with h1 | h1
      · exact h1
      · rw [List.getElem?_take, if_neg (by omega)] at hv; cases hv
    have h2 := h.mem (i + j) v (by rw [bN_get, ← hv, List.getElem?_take, if_pos hj, List.getElem?_drop])
    rw [Addr.add_off] at h2
    rw [Nat.add_assoc]; exact h2, (h.ok.drop i).take k⟩
theorem arr_set {k : IntKind} {m i : Nat} {f g : Nat → Int} {v : Int} (hv : v = g i) (hs : ∀ j, j ≠ i → f j = g j) : (arr k m f).set i (.int k v) = arr k m g := by
  apply List.ext_getElem?
  intro j
  unfold arr
  rw [List.getElem?_set]
  simp only [List.getElem?_map, List.length_map, List.length_range]
  by_cases h : i = j
  · subst h
    by_cases hi : i < m
    · simp [hi, hv]
    · simp [hi]
  · rw [if_neg h]
    by_cases hj : j < m
    · simp [hj, hs j (fun e => h e.symm)]
    · simp [hj]
def arrW (b : List Nat) (n : Nat) : List Value := arr .u32 64 fun j => ((sprN b n).getD j 0 : Nat)
theorem arrW_get (b : List Nat) (n i : Nat) (h : i < 64) : (arrW b n)[0 + i * 1]? = some (.int .u32 ((sprN b n).getD i 0 : Nat)) := by
  rw [Nat.zero_add, Nat.mul_one]; exact arr_get h
theorem arrW_set (b : List Nat) (n v : Nat) (h : v = (sprN b (n + 1)).getD n 0) : (arrW b n).set (0 + n * 1) (.int .u32 (v : Int)) = arrW b (n + 1) := by
  rw [Nat.zero_add, Nat.mul_one]
  refine arr_set (by rw [h]) fun j hj => ?_
  rcases Nat.lt_or_gt_of_ne hj with h1 | h1
  · rw [sprN_get b n j h1]
  · rw [sprN_over b n j (by omega), sprN_over b (n + 1) j (by omega)]
theorem arrW_len (b : List Nat) (n : Nat) : (arrW b n).length = 64 := by unfold arrW arr; rw [List.length_map, List.length_range]
theorem sprN_lo (b : List Nat) {n : Nat} (h : n < 16) : (sprN b (n + 1)).getD n 0 = wrd b n := by
  rw [sprN_last, show Nat.blt n 16 = true by rw [blt_iff]; exact decide_eq_true h, cond_true]
theorem sprN_hi (b : List Nat) {n : Nat} (h : 16 ≤ n) : (sprN b (n + 1)).getD n 0 = nextW (sprN b n) n := by
  rw [sprN_last, show Nat.blt n 16 = false by rw [blt_iff]; exact decide_eq_false (by omega), cond_false]
def encS (s : St) : List Value := [.int .u32 (s.a : Int), .int .u32 (s.b : Int), .int .u32 (s.c : Int), .int .u32 (s.d : Int), .int .u32 (s.e : Int), .int .u32 (s.f : Int), .int .u32 (s.g : Int), .int .u32 (s.h : Int)]
/-- the 64 constants, in a variable of the program's -/
structure Rounds (w : World) : Prop where
  lt : 1 < w.heap.size
  at_ : ∀ i, i < 64 → w.cell? ⟨1, i, none⟩ = some (.int .u32 (KS.getD i 0 : Nat))
theorem Rounds.kept {w w' : World} (h : Rounds w) (hb : Below w.heap.size w w') : Rounds w' := ⟨Nat.lt_of_lt_of_le h.lt hb.size, fun i hi => by rw [hb.cell (p := ⟨1, i, none⟩) h.lt]; exact h.at_ i hi⟩
theorem Rounds.keptS {w0 w : World} {H : List Ent} (h : Rounds w0) (hw : Sat w0 H w) : Rounds w := h.kept hw.below
theorem set4 (cur : List Value) (o : Nat) (h : o + 4 ≤ cur.length) (a b c d : Value) : ((((cur.set (o + 0 * 1) a).set (o + 1 * 1) b).set (o + 2 * 1) c).set (o + 3 * 1) d) = cur.take o ++ [a, b, c, d] ++ cur.drop (o + 4) := by
  apply List.ext_getElem?
  intro j
  simp only [List.getElem?_set, List.length_set, Nat.mul_one, Nat.zero_mul, Nat.add_zero, List.getElem?_append, List.length_append, List.length_take, List.length_cons, List.length_nil, List.getElem?_take, List.getElem?_drop]
  rw [show min o cur.length = o by omega]
  by_cases h0 : j < o
  · simp only [show ¬ o + 3 = j by omega, show ¬ o + 2 = j by omega, show ¬ o + 1 = j by omega, show ¬ o = j by omega, if_false, h0, if_true, show j < o + (0 + 1 + 1 + 1 + 1) by omega]
  · by_cases h1 : j < o + 4
    · rcases (show j = o ∨ j = o + 1 ∨ j = o + 2 ∨ j = o + 3 by omega) with rfl | rfl | rfl | rfl
      · simp [show j < cur.length by omega]
      · simp [show o + 1 < cur.length by omega, show ¬ o + 1 < o by omega]
      · simp [show o + 2 < cur.length by omega, show ¬ o + 2 < o by omega]
      · simp [show o + 3 < cur.length by omega, show ¬ o + 3 < o by omega]
    · simp only [show ¬ o + 3 = j by omega, show ¬ o + 2 = j by omega, show ¬ o + 1 = j by omega, show ¬ o = j by omega, if_false, show ¬ j < o + (0 + 1 + 1 + 1 + 1) by omega]
      rw [show o + 4 + (j - (o + (0 + 1 + 1 + 1 + 1))) = j by omega]
def top64 (x i : Nat) : List Nat := (List.range i).map fun k => x / 2 ^ (56 - 8 * k) % 2 ^ 8
theorem top64_succ (x i : Nat) : top64 x (i + 1) = top64 x i ++ [x / 2 ^ (56 - 8 * i) % 2 ^ 8] := by unfold top64; rw [List.range_succ, List.map_append]; rfl
theorem top64_all (x : Nat) : top64 x 8 = bytes64 x := rfl
theorem top64_len (x i : Nat) : (top64 x i).length = i := by unfold top64; rw [List.length_map, List.length_range]
def zpad (l : List Nat) (k : Nat) : List Nat := l ++ 128 :: List.replicate k 0
theorem zpad_succ (l : List Nat) (k : Nat) : zpad l (k + 1) = zpad l k ++ [0] := by
  unfold zpad; rw [List.replicate_succ', List.append_assoc]; rfl
theorem zpad_len (l : List Nat) (k : Nat) : (zpad l k).length = l.length + 1 + k := by
  unfold zpad; rw [List.length_append, List.length_cons, List.length_replicate]; omega
theorem zpad_yes {n k : Nat} (h : decide (((((n + 1 + k) % 64 : Nat) : Int)) ≠ 56) = true) (hk : k ≤ zerosN n) : k + 1 ≤ zerosN n := by
  have h := of_decide_eq_true h; unfold zerosN at *; omega
theorem zpad_no {n k : Nat} (h : decide (((((n + 1 + k) % 64 : Nat) : Int)) ≠ 56) = false) (hk : k ≤ zerosN n) : k = zerosN n := by
  have h := of_decide_eq_false h; unfold zerosN at *; omega
theorem zerosN_b (n : Nat) : zerosN n < 64 := Nat.mod_lt _ (by decide)
end Jal
/- the 64 constants, out of what the row lists -/
namespace Jal
open Go Go.RowKit Go.ChangeShapes Go.WideShapes Go.ChangeAt
/-- a row of numbers, out of its reading -/
theorem nums_of_trod {H : Type} {enc : TypeId × Value → H} {P : Program} {w : World} {base : Nat} {sp : Nat → Bool} {held : Bool} {fuel : Nat} {t e : TypeId} {n : Nat} {k : IntKind} {cs : List Value} {ds : List (DataW H)} {p : List MemPlace}
    (ht : P.underlying t = some (.array n e)) (he : P.underlying e = some (.int k)) (hc : P.cellsOf e = 1) (h : DataW.trod enc P w base sp held fuel t cs = some (.agg ds, p)) (i : Nat) (hi : i < n) (x : Int) (hx : ds[i]? = some (.lit (.int k x))) : cs[i]? = some (.int k x) := by
  obtain ⟨xs, m, rfl, h1, h2, h3, h4⟩ := DataW.trod_array ht h
  have h5 := h4 i hi
  rw [hc, Nat.mul_one] at h5
  simp only [Prod.mk.injEq, DataW.agg.injEq] at h1
  rw [h1.1, List.getElem?_map] at hx
  cases hy : xs[i]? with
  | none => rw [hy] at hx; cases hx
  | some y =>
    rw [hy] at h5 hx
    obtain ⟨a, h6, rfl, _⟩ := DataW.trod_int he h5
    simp only [Option.map_some, Option.some.injEq, DataW.lit.injEq, Lit.int.injEq, true_and] at hx
    subst hx
    have h7 := congrArg (fun l => l[0]?) h6
    simpa using h7
end Jal
namespace Go.Proofs.YtkafnafgmnlnpaaDoor
open Jal Go Go.RowKit Go.ChangeShapes Go.WideShapes Go.ChangeAt
set_option maxRecDepth 100000
theorem gRounds : Tryd.prog.globalNamed "jalousie/hash.rounds" = some 1 := by kernel_rfl
theorem tRounds : (Tryd.prog.globals[1]?).map (·.type) = some 98 := by kernel_rfl
def kAt (ds : List (DataW Unit)) (i : Nat) : Bool := match ds[i]? with
  | some (.lit (.int .u32 x)) => decide (x = ((KS.getD i 0 : Nat) : Int))
  | _ => false
def partsOf : DataW Unit → List (DataW Unit)
  | .agg ds => ds
  | _ => []
theorem all_k : (List.range 64).all (kAt (partsOf (Rows.laid_jalousie_hash_rounds (H := Unit)))) = true := by kernel_rfl
theorem laid_agg : (Rows.laid_jalousie_hash_rounds (H := Unit)) = .agg (partsOf Rows.laid_jalousie_hash_rounds) := rfl
theorem k_at (i : Nat) (hi : i < 64) : (partsOf (Rows.laid_jalousie_hash_rounds (H := Unit)))[i]? = some (.lit (.int .u32 ((KS.getD i 0 : Nat) : Int))) := by
  have h := List.all_eq_true.1 all_k i (List.mem_range.2 hi)
  unfold kAt at h
  split at h
  · next x hx => rw [hx, of_decide_eq_true h]
  · cases h
theorem rounds_of_one {W : World} {cs : Array Value} {f b : Nat} {sp : Nat → Bool} {held : Bool} {enc : TypeId × Value → Unit} {q : List MemPlace} (hv : W.var? Tryd.prog "jalousie/hash.rounds" = some cs) (hd : DataW.trod enc Tryd.prog W b sp held f 98 cs.toList = some (Rows.laid_jalousie_hash_rounds, q)) : Rounds W := by
  have hat : ∀ i, i < 64 → W.cell? ⟨1, i, none⟩ = some (.int .u32 (KS.getD i 0 : Nat)) := fun i hi => by
    rw [World.var?_cell gRounds hv i]
    rw [laid_agg] at hd
    have := nums_of_trod Tryd.underlying98 Tryd.underlying96 (by kernel_rfl) hd i hi _ (k_at i hi)
    simpa using this
  refine ⟨?_, hat⟩
  have h5 := hat 0 (by decide)
  unfold World.cell? at h5
  rcases Nat.lt_or_ge 1 W.heap.size with h6 | h6
  · exact h6
  · simp only [Array.getElem?_eq_none h6] at h5; cases h5
theorem rounds_of_laid {W : World} (h : laidMetH Tryd.prog [("jalousie/hash.rounds", Rows.laid_jalousie_hash_rounds)] W) : Rounds W := by
  rw [MakeChecks.laidMetH_plain _ _ _ (by kernel_rfl)] at h
  obtain ⟨ps, ⟨g0, t0, cs0, f0, p0, q0, hg0, ht0, hv0, hd0, _⟩, _⟩ := h
  obtain rfl := Option.some.inj (gRounds.symm.trans hg0)
  obtain rfl := Option.some.inj (tRounds.symm.trans ht0)
  exact rounds_of_one hv0 hd0
/-- the door's own heap meets it -/
theorem door_met1 (os : Os) (args : Array Value) : laidMetH Tryd.prog [("jalousie/hash.rounds", Rows.laid_jalousie_hash_rounds)] ((World.doorLaid Tryd.prog 65 os).forCall (fun _ _ => 0) ⟨#[], args, []⟩).memory :=
  laidMetH_of_parts3 (fuel := 8) (laidMet_of_run' 8 (by kernel_rfl) (by kernel_rfl)) (by kernel_rfl) (by kernel_rfl)
end Go.Proofs.YtkafnafgmnlnpaaDoor
/- slices of bytes, side by side; a key laid out and turned -/
namespace Jal
open Go Go.RowKit
/-- slices of bytes, side by side in memory -/
def PartsN (w : World) (b o : Nat) (ls : List (List Nat)) : Prop :=
  ∃ vs : List Value, vs.length = ls.length ∧ Mem w ⟨b, o, none⟩ vs ∧ ∀ (i : Nat) (v : Value) (l : List Nat), vs[i]? = some v → ls[i]? = some l → OkB l ∧ ∃ (p : Option Addr) (cap : Nat), v = .slice p l.length cap ∧ (p = none → l = []) ∧ ∀ a, p = some a → Mem w a (bN l)
/-- the same, with what stays when the world grows -/
structure PartsK (w : World) (b o : Nat) (ls : List (List Nat)) : Prop where
  lt : b < w.heap.size
  ok : OkB ls.flatten
  h : ∃ vs : List Value, vs.length = ls.length ∧ Mem w ⟨b, o, none⟩ vs ∧ ∀ (i : Nat) (v : Value) (l : List Nat), vs[i]? = some v → ls[i]? = some l → ∃ (p : Option Addr) (cap : Nat), v = .slice p l.length cap ∧ (p = none → l = []) ∧ ∀ a, p = some a → a.block < w.heap.size ∧ Mem w a (bN l)
theorem PartsK.keptS {w0 w : World} {H : List Ent} {b o : Nat} {ls : List (List Nat)} (hP : PartsK w0 b o ls) (hw : Sat w0 H w) : PartsN w b o ls := by
  obtain ⟨vs, h1, h2, h3⟩ := hP.h
  refine ⟨vs, h1, h2.kept hw.below hP.lt, fun i v l hv hl => ?_⟩
  obtain ⟨p, cap, e, hp, ha⟩ := h3 i v l hv hl
  exact ⟨fun y hy => hP.ok y (List.mem_flatten.2 ⟨l, List.mem_of_getElem? hl, hy⟩), p, cap, e, hp, fun a ea => (ha a ea).2.kept hw.below (ha a ea).1⟩
def kcF (K : List Nat) (x i j : Nat) : Nat := bif Nat.blt j i then K.getD j 0 ^^^ x else K.getD j 0
def kc (K : List Nat) (x i : Nat) : List Value := arr .u8 64 fun j => (kcF K x i j : Nat)
theorem kc_len (K : List Nat) (x i : Nat) : (kc K x i).length = 64 := by unfold kc arr; rw [List.length_map, List.length_range]
theorem kc_get (K : List Nat) (x i : Nat) (h : i < 64) : (kc K x i)[0 + i * 1]? = some (.int .u8 (K.getD i 0 : Nat)) := by
  rw [Nat.zero_add, Nat.mul_one]; unfold kc; rw [arr_get h]; unfold kcF; rw [show Nat.blt i i = false by rw [blt_iff]; exact decide_eq_false (by omega), cond_false]
theorem kc_set (K : List Nat) (x i : Nat) : (kc K x i).set (0 + i * 1) (.int .u8 ((K.getD i 0 ^^^ x : Nat) : Int)) = kc K x (i + 1) := by
  rw [Nat.zero_add, Nat.mul_one]
  refine arr_set ?_ fun j hj => ?_
  · unfold kcF; rw [show Nat.blt i (i + 1) = true by rw [blt_iff]; exact decide_eq_true (by omega), cond_true]
  · unfold kcF; rw [show Nat.blt j (i + 1) = Nat.blt j i by rw [blt_iff, blt_iff]; exact decide_eq_decide.2 (by omega)]
theorem kc_all (K : List Nat) (x : Nat) : kc K x 64 = bN (keyX K x) := by
  unfold kc arr bN keyX
  rw [List.map_map]
  apply List.map_congr_left
  intro j hj
  have hj := List.mem_range.1 hj
  simp only [Function.comp]
  unfold kcF; rw [show Nat.blt j 64 = true by rw [blt_iff]; exact decide_eq_true hj, cond_true]
theorem kcF_start (K : List Nat) (x j : Nat) : kcF K x 0 j = K.getD j 0 := by
  unfold kcF; rw [show Nat.blt j 0 = false by rw [blt_iff]; exact decide_eq_false (by omega), cond_false]
theorem kc_start (K : List Nat) (x : Nat) (h : K.length ≤ 64) : (List.replicate 64 (Value.int .u8 0)).take 0 ++ bN K ++ (List.replicate 64 (Value.int .u8 0)).drop (0 + (bN K).length) = kc K x 0 := by
  rw [List.take_zero, List.nil_append, Nat.zero_add, bN_len]
  apply List.ext_getElem?
  intro j
  unfold kc arr
  rw [List.getElem?_append, bN_len, bN_get, List.drop_replicate, List.getElem?_map]
  by_cases h1 : j < K.length
  · rw [if_pos h1, List.getElem?_range (by omega), Option.map_some]; show _ = some (Value.int IntKind.u8 ((kcF K x 0 j : Nat) : Int)); rw [kcF_start, List.getD_eq_getElem?_getD, List.getElem?_eq_getElem h1]; rfl
  · rw [if_neg h1, List.getElem?_replicate]
    by_cases h2 : j < 64
    · rw [if_pos (by omega), List.getElem?_range h2, Option.map_some]; show _ = some (Value.int IntKind.u8 ((kcF K x 0 j : Nat) : Int)); rw [kcF_start, List.getD_eq_getElem?_getD, List.getElem?_eq_none (by omega)]; rfl
    · rw [if_neg (by omega), List.getElem?_eq_none (by rw [List.length_range]; omega)]; rfl
theorem keyX_ok {K : List Nat} (h : OkB K) {x : Nat} (hx : x < 256) : OkB (keyX K x) := fun y hy => by
  obtain ⟨i, _, rfl⟩ := List.mem_map.1 hy
  exact xor_b (m := 8) (h.getD i) hx
theorem blk_by {w0 w : World} {H : List Ent} {b : Nat} {t : TypeId} {L : List Nat} (hw : Sat w0 H w) (i : Nat) (hi : H[i]? = some ⟨b, bN L, t⟩) (hk : OkB L) : By w b 0 L :=
  ⟨hw.lt (e := ⟨b, bN L, t⟩) (List.mem_of_getElem? hi), hw.mem hi 0, hk⟩
/-- one slice of bytes in a world -/
def PartV (w : World) (v : Value) (l : List Nat) : Prop := ∃ (p : Option Addr) (cap : Nat), v = .slice p l.length cap ∧ (p = none → l = []) ∧ ∀ a, p = some a → a.block < w.heap.size ∧ Mem w a (bN l)
theorem By.partV {w : World} {b o n c : Nat} {l : List Nat} (h : By w b o l) (hn : l.length = n) : PartV w (.slice (some ⟨b, o, none⟩) n c) l := ⟨some ⟨b, o, none⟩, c, by rw [hn], fun e => (by cases e), fun a e => (by cases e; exact ⟨h.lt, h.mem⟩)⟩
theorem PartV.keptS {w0 w : World} {H : List Ent} {v : Value} {l : List Nat} (h : PartV w0 v l) (hw : Sat w0 H w) : PartV w v l := by
  obtain ⟨p, cap, e, h1, h2⟩ := h
  exact ⟨p, cap, e, h1, fun a ea => ⟨Nat.lt_of_lt_of_le (h2 a ea).1 hw.below.size, (h2 a ea).2.kept hw.below (h2 a ea).1⟩⟩
theorem PartV.one {w : World} {v : Value} {l : List Nat} (h : PartV w v l) : v.oneCell' = true := by obtain ⟨p, c, rfl, _⟩ := h; rfl
/-- slices of bytes, one for each list -/
def PartVs (w : World) : List Value → List (List Nat) → Prop
  | [], [] => True
  | v :: vs, l :: ls => PartV w v l ∧ PartVs w vs ls
  | _, _ => False
theorem PartVs.len {w : World} : ∀ {vs : List Value} {ls : List (List Nat)}, PartVs w vs ls → vs.length = ls.length
  | [], [], _ => rfl
  | _ :: _, _ :: _, h => congrArg (· + 1) (PartVs.len h.2)
theorem PartVs.keptS {w0 w : World} {H : List Ent} (hw : Sat w0 H w) : ∀ {vs : List Value} {ls : List (List Nat)}, PartVs w0 vs ls → PartVs w vs ls
  | [], [], _ => trivial
  | _ :: _, _ :: _, h => ⟨h.1.keptS hw, PartVs.keptS hw h.2⟩
theorem PartVs.one {w : World} : ∀ {vs : List Value} {ls : List (List Nat)}, PartVs w vs ls → ∀ u ∈ vs, u.oneCell' = true
  | [], [], _, u, hu => by cases hu
  | v :: vs, l :: ls, h, u, hu => by
    rcases List.mem_cons.1 hu with rfl | hu
    · exact h.1.one
    · exact PartVs.one h.2 u hu
theorem PartVs.get {w : World} : ∀ {vs : List Value} {ls : List (List Nat)}, PartVs w vs ls → ∀ (i : Nat) (v : Value) (l : List Nat), vs[i]? = some v → ls[i]? = some l → PartV w v l
  | [], [], _, i, v, l, hv, _ => by cases hv
  | v0 :: vs, l0 :: ls, h, 0, v, l, hv, hl => by cases hv; cases hl; exact h.1
  | v0 :: vs, l0 :: ls, h, i + 1, v, l, hv, hl => PartVs.get h.2 i v l hv hl
theorem PartVs.k {w : World} {b o : Nat} {vs : List Value} {ls : List (List Nat)} (h : PartVs w vs ls) (hb : b < w.heap.size) (hm : Mem w ⟨b, o, none⟩ vs) (hok : OkB ls.flatten) : PartsK w b o ls :=
  ⟨hb, hok, vs, h.len, hm, fun i v l hv hl => h.get i v l hv hl⟩
theorem own_memV {w0 w : World} {H oe : List Ent} {g m c : Nat} {e : TypeId} {xs : List Value} (h : OwnL e 1 (.slice (some ⟨g, 0, none⟩) m c) m xs oe) (hs : oe.Sublist H) (hw : Sat w0 H w) : g < w.heap.size ∧ Mem w ⟨g, 0, none⟩ xs := by
  rcases h.2 with ⟨h0, _⟩ | ⟨g', cap, cur, h1, rfl, _, _, _, ht⟩
  · cases h0
  · cases h1
    have hw' := hw.sub hs
    refine ⟨hw'.lt (e := ⟨g, cur, e⟩) (by simp), fun j v hv => ?_⟩
    refine hw'.mem (i := 0) (e := ⟨g, cur, e⟩) rfl 0 j v ?_
    rw [← ht, List.getElem?_take] at hv
    split at hv
    · simpa using hv
    · cases hv
end Jal
/- what an argument that reads as data looks like in memory -/
namespace Jal
open Go Go.RowKit Go.ChangeShapes Go.WideShapes Go.ChangeAt
section
variable {H : Type} {enc : TypeId × Value → H} {P : Program} {w : World}
/-- cells that read as data of a type -/
def Dec (enc : TypeId × Value → H) (P : Program) (w : World) (t : TypeId) (cs : List Value) : Prop := ∃ fuel x, DataW.trod enc P w 0 (fun _ => true) true fuel t cs = some x
theorem Dec.of_trod {t : TypeId} {v : Value} {d : DataW H} {ps : List MemPlace} (h : DataW.Trod enc P w 0 (fun _ => true) true t v d ps) : Dec enc P w t v.cells.toList := by
  obtain ⟨f, hf⟩ := h; exact ⟨f, _, hf⟩
def I64 (x : Int) : Prop := -9223372036854775808 ≤ x ∧ x ≤ 9223372036854775807
def U64 (x : Int) : Prop := 0 ≤ x ∧ x ≤ 18446744073709551615
theorem wf_i64 {n : Int} (h : (Lit.int .i64 n).wf = true) : I64 n := by simpa [Lit.wf, IntKind.min, IntKind.max, IntKind.signed, IntKind.bits, I64] using h
theorem wf_u64 {n : Int} (h : (Lit.int .u64 n).wf = true) : U64 n := by simpa [Lit.wf, IntKind.min, IntKind.max, IntKind.signed, IntKind.bits, U64] using h
def U8 (n : Int) : Prop := 0 ≤ n ∧ n ≤ 255
theorem wf_u8 {n : Int} (h : (Lit.int .u8 n).wf = true) : U8 n := by simpa [Lit.wf, IntKind.min, IntKind.max, IntKind.signed, IntKind.bits, U8] using h
theorem Dec.int {t : TypeId} {cs : List Value} {k : IntKind} (h : Dec enc P w t cs) (ht : P.underlying t = some (.int k)) : ∃ n, cs = [.int k n] ∧ (Lit.int k n).wf = true := by
  obtain ⟨f, x, h⟩ := h
  obtain ⟨n, h1, _, h2⟩ := DataW.trod_int ht h
  exact ⟨n, h1, h2⟩
theorem Dec.bool {t : TypeId} {cs : List Value} (h : Dec enc P w t cs) (ht : P.underlying t = some .bool) : ∃ b, cs = [.bool b] := by
  obtain ⟨f, x, h⟩ := h
  obtain ⟨n, h1, _⟩ := DataW.trod_bool ht h
  exact ⟨n, h1⟩
theorem Dec.str {t : TypeId} {cs : List Value} (h : Dec enc P w t cs) (ht : P.underlying t = some .string) : ∃ s : ByteArray, cs = [.string s] ∧ s.size ≤ maxLen := by
  obtain ⟨f, x, h⟩ := h
  obtain ⟨n, h1, _, h2⟩ := DataW.trod_string ht h
  exact ⟨n, h1, h2⟩
theorem Dec.field {t : TypeId} {cs : List Value} {fs : Array Field} (h : Dec enc P w t cs) (ht : P.underlying t = some (.struct fs)) :
    cs.length = P.cellsOf t ∧ ∀ (i : Nat) (f : Field), fs[i]? = some f → Dec enc P w f.type ((cs.drop f.offset).take (P.cellsOf f.type)) := by
  obtain ⟨fu, x, h⟩ := h
  obtain ⟨xs, n, rfl, _, hl, hxl, hx⟩ := DataW.trod_struct ht h
  refine ⟨hl, fun i f hf => ?_⟩
  have := hx i f hf
  have hi : i < xs.length := by rw [hxl]; exact (Array.getElem?_eq_some_iff.1 hf).1
  rw [List.getElem?_eq_getElem hi] at this
  exact ⟨n, _, this⟩
theorem Dec.elem {t e : TypeId} {cs : List Value} {n : Nat} (h : Dec enc P w t cs) (ht : P.underlying t = some (.array n e)) :
    cs.length = P.cellsOf t ∧ ∀ i, i < n → Dec enc P w e ((cs.drop (i * P.cellsOf e)).take (P.cellsOf e)) := by
  obtain ⟨fu, x, h⟩ := h
  obtain ⟨xs, m, rfl, _, hl, hxl, hx⟩ := DataW.trod_array ht h
  refine ⟨hl, fun i hi => ?_⟩
  have := hx i hi
  rw [List.getElem?_eq_getElem (by omega)] at this
  exact ⟨m, _, this⟩
/-- an array of numbers -/
theorem Dec.arr {t e : TypeId} {cs : List Value} {n : Nat} {k : IntKind} (h : Dec enc P w t cs) (ht : P.underlying t = some (.array n e)) (he : P.underlying e = some (.int k)) (hc : P.cellsOf e = 1) (hl : P.cellsOf t = n) :
    ∃ f, cs = Jal.arr k n f ∧ ∀ i, i < n → (Lit.int k (f i)).wf = true := by
  obtain ⟨h1, h2⟩ := h.elem ht
  rw [hc] at h2
  obtain ⟨f, hf⟩ := Go.Deep.choose_lt (α := Int) (p := fun i m => (cs.drop (i * 1)).take 1 = [.int k m] ∧ (Lit.int k m).wf = true) (fun i hi => by
    obtain ⟨m, h3, h4⟩ := (h2 i hi).int he; exact ⟨m, h3, h4⟩)
  refine ⟨f, ?_, fun i hi => (hf i hi).2⟩
  apply List.ext_getElem?
  intro i
  unfold Jal.arr
  by_cases hi : i < n
  · have h3 := (hf i hi).1
    have h4 : (List.take 1 (List.drop (i * 1) cs))[0]? = some (.int k (f i)) := by rw [h3]; rfl
    rw [List.getElem?_take, if_pos (by omega), List.getElem?_drop, Nat.mul_one, Nat.add_zero] at h4
    rw [h4, List.getElem?_map, List.getElem?_range hi]; rfl
  · rw [List.getElem?_eq_none (by omega), List.getElem?_eq_none (by simpa using hi)]
theorem Dec.barr {t e : TypeId} {cs : List Value} {n : Nat} (h : Dec enc P w t cs) (ht : P.underlying t = some (.array n e)) (he : P.underlying e = some .bool) (hc : P.cellsOf e = 1) (hl : P.cellsOf t = n) :
    ∃ f, cs = Jal.barr n f := by
  obtain ⟨h1, h2⟩ := h.elem ht
  rw [hc] at h2
  obtain ⟨f, hf⟩ := Go.Deep.choose_lt (α := Bool) (p := fun i m => (cs.drop (i * 1)).take 1 = [.bool m]) (fun i hi => by
    obtain ⟨m, h3⟩ := (h2 i hi).bool he; exact ⟨m, h3⟩)
  refine ⟨f, ?_⟩
  apply List.ext_getElem?
  intro i
  unfold Jal.barr
  by_cases hi : i < n
  · have h3 := hf i hi
    have h4 : (List.take 1 (List.drop (i * 1) cs))[0]? = some (.bool (f i)) := by rw [h3]; rfl
    rw [List.getElem?_take, if_pos (by omega), List.getElem?_drop, Nat.mul_one, Nat.add_zero] at h4
    rw [h4, List.getElem?_map, List.getElem?_range hi]; rfl
  · rw [List.getElem?_eq_none (by omega), List.getElem?_eq_none (by simpa using hi)]
/-- a slice: what its elements' cells are -/
theorem Dec.slice {t e : TypeId} {a : Option Addr} {n c sz : Nat} {α : Type} [Inhabited α] {en : α → List Value} {ok : α → Prop} (h : Dec enc P w t [.slice a n c]) (ht : P.underlying t = some (.slice e))
    (hs : P.cellsOf e = sz) (h0 : 0 < sz) (hd : ∀ cs, Dec enc P w e cs → ∃ x, cs = en x ∧ ok x) :
    (n : Int) ≤ 9223372036854775807 ∧ ∃ l : Nat → α, Sl w a n sz (fun i => en (l i)) ∧ ∀ i, i < n → ok (l i) := by
  obtain ⟨fu, x, h⟩ := h
  rcases Go.Deep.open_slice ht h with ⟨hcs, _⟩ | ⟨ad, len, cap, m, f, D, Pl, hcs, _, hlc, hm, hmm, _, hx⟩
  · simp at hcs
    obtain ⟨rfl, rfl, rfl⟩ := hcs
    exact ⟨by omega, fun _ => default, ⟨.inl rfl⟩, fun i hi => by omega⟩
  · simp at hcs
    obtain ⟨rfl, rfl, rfl⟩ := hcs
    simp at hmm
    subst hmm
    have hel : ∀ i, i < n → ∃ y, (∃ cs', w.cells? 0 (ad.add (i * sz)) sz = some cs' ∧ cs' = en y) ∧ ok y := fun i hi => by
      obtain ⟨cs', h1, h2⟩ := hx i (by omega)
      rw [hs] at h1
      obtain ⟨y, rfl, hy⟩ := hd cs' ⟨_, _, h2⟩
      exact ⟨y, ⟨_, h1, rfl⟩, hy⟩
    obtain ⟨l, hl⟩ := Go.Deep.choose_lt hel
    refine ⟨by unfold maxLen at hm; omega, l, ⟨?_⟩, fun i hi => (hl i hi).2⟩
    by_cases hn : n = 0
    · exact .inl hn
    right
    have hc0 : ∀ i, i < n → ∀ j, j < sz → w.cell? ((ad.add (i * sz)).add j) = (en (l i))[j]? := fun i hi j hj => by
      obtain ⟨cs', h1, rfl⟩ := (hl i hi).1
      exact (World.cells?_some h1).2.2 j hj
    have hlen : ∀ i, i < n → (en (l i)).length = sz := fun i hi => by
      obtain ⟨cs', h1, rfl⟩ := (hl i hi).1
      exact (World.cells?_some h1).2.1
    obtain ⟨b, o, spot⟩ := ad
    have hcell0 := hc0 0 (by omega) 0 h0
    rw [List.getElem?_eq_getElem (by rw [hlen 0 (by omega)]; exact h0)] at hcell0
    have hspot : spot = none := by simpa [Addr.add] using World.cell?_spot hcell0
    subst hspot
    refine ⟨b, o, rfl, ?_, fun i hi j v hv => ?_⟩
    · have := World.block_lt_of_cell? w _ hcell0
      simpa [Addr.add] using this
    · have hj : j < sz := by rw [← hlen i hi]; exact (List.getElem?_eq_some_iff.1 hv).1
      have := hc0 i hi j hj
      rw [Addr.add_off] at this
      rw [this]; exact hv
theorem splitAt {cs A : List Value} {o k : Nat} (h : (cs.drop o).take k = A) : cs.drop o = A ++ cs.drop (o + k) := by
  rw [← h, ← List.drop_drop, List.take_append_drop]
end
end Jal
/- rows of bytes that are the same, for the model's own test -/
namespace Jal
open Go Go.RowKit
set_option maxRecDepth 100000
theorem eq_int2 {P : Program} {t : TypeId} {k : IntKind} (h : P.underlying t = some (.int k)) (d : Nat) (a b : Int) (w : World) : (Op.equalIn (d + 1) t (.int k a) (.int k b)).run P w = .ok (decide (a = b)) w := by
  by_cases hab : a = b
  · subst hab; simp [Op.equalIn, run_underlying h]
  · simp [Op.equalIn, run_underlying h, hab]
theorem eq_items2 {P : Program} (d : Nat) {e : TypeId} {k : IntKind} (hu : P.underlying e = some (.int k)) (hs : P.cellsOf e = 1) (xs ys : Array Value) (a b : Nat → Int) (w : World) :
    ∀ (is : List Nat), (∀ i ∈ is, xs[i]? = some (.int k (a i)) ∧ ys[i]? = some (.int k (b i))) → (Op.eqItems (d + 1) e (P.cellsOf e) xs ys is).run P w = .ok (is.all fun i => decide (a i = b i)) w
  | [], _ => by simp [Op.eqItems]
  | i :: is, h => by
    obtain ⟨h1, h2⟩ := h i (by simp)
    have he : P.plainKey e = true := by simp [Program.plainKey, hu]
    have ih := eq_items2 d hu hs xs ys a b w is (fun j hj => h j (by simp [hj]))
    rw [hs] at ih ⊢
    by_cases hab : a i = b i
    · simp [Op.eqItems, Sem.run_bind, Nat.mul_one, run_part_plain w he h1, run_part_plain w he h2, eq_int2 hu, hab, ih]
    · simp [Op.eqItems, Sem.run_bind, Nat.mul_one, run_part_plain w he h1, run_part_plain w he h2, eq_int2 hu, hab]
theorem bN_arr {n : Nat} {L : List Nat} (h : L.length = n) : bN L = arr .u8 n (fun i => (L.getD i 0 : Nat)) := by
  apply List.ext_getElem?
  intro j
  rw [bN_get]
  unfold arr
  rw [List.getElem?_map]
  by_cases hj : j < n
  · rw [List.getElem?_range hj, List.getElem?_eq_getElem (by omega)]; simp [List.getD_eq_getElem?_getD, show j < L.length by omega]
  · rw [List.getElem?_eq_none (by omega), List.getElem?_eq_none (by rw [List.length_range]; omega)]; rfl
theorem all_eq {n : Nat} {A B : List Nat} (hA : A.length = n) (hB : B.length = n) : ((List.range n).all fun i => decide (((A.getD i 0 : Nat) : Int) = ((B.getD i 0 : Nat) : Int))) = decide (A = B) := by
  by_cases h : A = B
  · subst h; simp
  · rw [decide_eq_false h, List.all_eq_false]
    apply Classical.byContradiction
    intro hn
    apply h
    apply List.ext_getElem?
    intro j
    by_cases hj : j < n
    · rw [List.getElem?_eq_getElem (by omega), List.getElem?_eq_getElem (by omega)]
      have := fun he => hn ⟨j, List.mem_range.2 hj, he⟩
      simp only [List.getD_eq_getElem?_getD, List.getElem?_eq_getElem (show j < A.length by omega), List.getElem?_eq_getElem (show j < B.length by omega), Option.getD_some, decide_eq_true_eq, Classical.not_not] at this
      rw [Int.ofNat_inj.1 (Classical.byContradiction this)]
    · rw [List.getElem?_eq_none (by omega), List.getElem?_eq_none (by omega)]
theorem row_eq {P : Program} (d : Nat) {t e : TypeId} {n : Nat} (hu : P.underlying t = some (.array n e)) (he : P.underlying e = some (.int .u8)) (hs : P.cellsOf e = 1) {A B : List Nat} (hA : A.length = n) (hB : B.length = n) (w : World) :
    (Op.equalIn (d + 2) t (.agg (bN A).toArray) (.agg (bN B).toArray)).run P w = .ok (decide (A = B)) w := by
  obtain ⟨i, hi⟩ := info_of_underlying he
  rw [run_equalIn_array w (d + 1) _ _ hu hi, ← all_eq hA hB]
  refine eq_items2 d he hs _ _ (fun i => ((A.getD i 0 : Nat) : Int)) (fun i => ((B.getD i 0 : Nat) : Int)) w _ (fun i hi => ?_)
  have hi := List.mem_range.1 hi
  have h1 := arr_get (k := .u8) (f := fun i => ((A.getD i 0 : Nat) : Int)) hi
  have h2 := arr_get (k := .u8) (f := fun i => ((B.getD i 0 : Nat) : Int)) hi
  rw [← bN_arr hA] at h1; rw [← bN_arr hB] at h2
  exact ⟨by simpa using h1, by simpa using h2⟩
end Jal
namespace Go.Proofs.YtkafnafgmnlnpaaDoor
open Jal Go Go.RowKit
set_option maxRecDepth 100000
theorem eqlRow {t : TypeId} {n : Nat} {x y : Operand} (hu : Tryd.prog.underlying t = some (.array n 5)) (hg : Tryd.prog.eqGuardType Tryd.prog.depth t = false) {A B : List Nat} (hA : A.length = n) (hB : B.length = n) (w : World) :
    (do eqGuard .eql t x y (.agg (bN A).toArray) (.agg (bN B).toArray); binOp .eql t (.agg (bN A).toArray) (.agg (bN B).toArray)).run Tryd.prog w = .ok (.bool (decide (A = B))) w := by
  have he : (Op.equal t (.agg (bN A).toArray) (.agg (bN B).toArray)).run Tryd.prog w = .ok (decide (A = B)) w := row_eq 9998 hu Tryd.underlying5 (by kernel_rfl) hA hB w
  simp [eqGuard, binOp, Sem.run_bind, run_program, hg, he]
theorem neqRow {t : TypeId} {n : Nat} {x y : Operand} (hu : Tryd.prog.underlying t = some (.array n 5)) (hg : Tryd.prog.eqGuardType Tryd.prog.depth t = false) {A B : List Nat} (hA : A.length = n) (hB : B.length = n) (w : World) :
    (do eqGuard .neq t x y (.agg (bN A).toArray) (.agg (bN B).toArray); binOp .neq t (.agg (bN A).toArray) (.agg (bN B).toArray)).run Tryd.prog w = .ok (.bool (!decide (A = B))) w := by
  have he : (Op.equal t (.agg (bN A).toArray) (.agg (bN B).toArray)).run Tryd.prog w = .ok (decide (A = B)) w := row_eq 9998 hu Tryd.underlying5 (by kernel_rfl) hA hB w
  simp [eqGuard, binOp, Sem.run_bind, run_program, hg, he]
theorem eg23 : Tryd.prog.eqGuardType Tryd.prog.depth 23 = false := by kernel_rfl
theorem eg41 : Tryd.prog.eqGuardType Tryd.prog.depth 41 = false := by kernel_rfl
theorem eql23 {x y : Operand} {A B : List Nat} (hA : A.length = 32) (hB : B.length = 32) (w : World) : (do eqGuard .eql 23 x y (.agg (bN A).toArray) (.agg (bN B).toArray); binOp .eql 23 (.agg (bN A).toArray) (.agg (bN B).toArray)).run Tryd.prog w = .ok (.bool (decide (A = B))) w := eqlRow Tryd.underlying23 eg23 hA hB w
theorem neq23 {x y : Operand} {A B : List Nat} (hA : A.length = 32) (hB : B.length = 32) (w : World) : (do eqGuard .neq 23 x y (.agg (bN A).toArray) (.agg (bN B).toArray); binOp .neq 23 (.agg (bN A).toArray) (.agg (bN B).toArray)).run Tryd.prog w = .ok (.bool (!decide (A = B))) w := neqRow Tryd.underlying23 eg23 hA hB w
theorem eql41 {x y : Operand} {A B : List Nat} (hA : A.length = 16) (hB : B.length = 16) (w : World) : (do eqGuard .eql 41 x y (.agg (bN A).toArray) (.agg (bN B).toArray); binOp .eql 41 (.agg (bN A).toArray) (.agg (bN B).toArray)).run Tryd.prog w = .ok (.bool (decide (A = B))) w := eqlRow Tryd.underlying41 eg41 hA hB w
theorem neq41 {x y : Operand} {A B : List Nat} (hA : A.length = 16) (hB : B.length = 16) (w : World) : (do eqGuard .neq 41 x y (.agg (bN A).toArray) (.agg (bN B).toArray); binOp .neq 41 (.agg (bN A).toArray) (.agg (bN B).toArray)).run Tryd.prog w = .ok (.bool (!decide (A = B))) w := neqRow Tryd.underlying41 eg41 hA hB w
end Go.Proofs.YtkafnafgmnlnpaaDoor
namespace Jal
open Go Go.RowKit
def eqA (n : Nat) (a b : Nat → Int) : Bool := (List.range n).all fun i => decide (a i = b i)
theorem eqA_iff {n : Nat} {a b : Nat → Int} : eqA n a b = true ↔ ∀ i, i < n → a i = b i := by
  simp [eqA, List.all_eq_true, List.mem_range]
theorem eqA_refl (n : Nat) (a : Nat → Int) : eqA n a a = true := eqA_iff.2 fun _ _ => rfl
theorem eqA_comm (n : Nat) (a b : Nat → Int) : eqA n a b = eqA n b a := by
  apply Bool.eq_iff_iff.2
  rw [eqA_iff, eqA_iff]
  exact ⟨fun h i hi => (h i hi).symm, fun h i hi => (h i hi).symm⟩
theorem arr_eq {P : Program} (d : Nat) {t e : TypeId} {n : Nat} {k : IntKind} (hu : P.underlying t = some (.array n e)) (he : P.underlying e = some (.int k)) (hs : P.cellsOf e = 1) (a b : Nat → Int) (w : World) :
    (Op.equalIn (d + 2) t (.agg (arr k n a).toArray) (.agg (arr k n b).toArray)).run P w = .ok (eqA n a b) w := by
  obtain ⟨i, hi⟩ := info_of_underlying he
  rw [run_equalIn_array w (d + 1) _ _ hu hi]
  exact eq_items2 d he hs _ _ a b w _ (fun i hi => ⟨by have := arr_get (k := k) (f := a) (List.mem_range.1 hi); simpa using this, by have := arr_get (k := k) (f := b) (List.mem_range.1 hi); simpa using this⟩)
/-- the first place where it holds, or -1 -/
def idxQ (q : Nat → Bool) (n : Nat) : Int := match (List.range n).find? q with
  | some i => (i : Int)
  | none => -1
theorem idxQ_yes {q : Nat → Bool} {n i : Nat} (hi : i < n) (hq : q i = true) (hb : ∀ j, j < i → q j = false) : idxQ q n = (i : Int) := by
  unfold idxQ
  rw [List.find?_range_eq_some.2 ⟨hq, List.mem_range.2 hi, fun j hj => by rw [hb j hj]; rfl⟩]
theorem idxQ_no {q : Nat → Bool} {n : Nat} (hb : ∀ j, j < n → q j = false) : idxQ q n = -1 := by
  unfold idxQ
  rw [List.find?_range_eq_none.2 (fun j hj => by simpa using hb j hj)]
theorem idxQ_any (q : Nat → Bool) (n : Nat) : decide (idxQ q n ≥ 0) = (List.range n).any q := by
  unfold idxQ
  cases h : (List.range n).find? q with
  | none =>
    have h1 := List.find?_eq_none.1 h
    have h2 : (List.range n).any q = false := List.any_eq_false.2 fun x hx => h1 x hx
    rw [h2]; rfl
  | some i =>
    have h2 : (List.range n).any q = true := List.any_eq_true.2 ⟨i, List.mem_of_find?_eq_some h, List.find?_some h⟩
    rw [h2]; exact decide_eq_true (by show (0 : Int) ≤ (i : Int); omega)
theorem any_yes {q : Nat → Bool} {n i : Nat} (hi : i < n) (hq : q i = true) : (List.range n).any q = true := List.any_eq_true.2 ⟨i, List.mem_range.2 hi, hq⟩
theorem any_no {q : Nat → Bool} {n : Nat} (hb : ∀ j, j < n → q j = false) : (List.range n).any q = false := List.any_eq_false.2 fun x hx => by rw [hb x (List.mem_range.1 hx)]; exact Bool.false_ne_true
/-- a token among others -/
def hasT (f : Nat → Int) (u : Nat → Nat → Int) (m : Nat) : Bool := (List.range m).any fun i => eqA 16 f (u i)
def meetT (t : Nat → Nat → Int) (n : Nat) (u : Nat → Nat → Int) (m : Nat) : Bool := (List.range n).any fun i => hasT (t i) u m
theorem meetT_comm (t : Nat → Nat → Int) (n : Nat) (u : Nat → Nat → Int) (m : Nat) : meetT t n u m = meetT u m t n := by
  apply Bool.eq_iff_iff.2
  simp only [meetT, hasT, List.any_eq_true, List.mem_range]
  constructor
  · rintro ⟨i, hi, j, hj, h⟩; exact ⟨j, hj, i, hi, by rw [eqA_comm]; exact h⟩
  · rintro ⟨i, hi, j, hj, h⟩; exact ⟨j, hj, i, hi, by rw [eqA_comm]; exact h⟩
end Jal
namespace Go.Proofs.YtkafnafgmnlnpaaDoor
open Jal Go Go.RowKit
theorem eqlT {x y : Operand} (a b : Nat → Int) (w : World) : (do eqGuard .eql 41 x y (.agg (arr .u8 16 a).toArray) (.agg (arr .u8 16 b).toArray); binOp .eql 41 (.agg (arr .u8 16 a).toArray) (.agg (arr .u8 16 b).toArray)).run Tryd.prog w = .ok (.bool (eqA 16 a b)) w := by
  have he : (Op.equal 41 (.agg (arr .u8 16 a).toArray) (.agg (arr .u8 16 b).toArray)).run Tryd.prog w = .ok (eqA 16 a b) w := arr_eq 9998 Tryd.underlying41 Tryd.underlying5 (by kernel_rfl) a b w
  simp [eqGuard, binOp, Sem.run_bind, run_program, eg41, he]
theorem eqlTc {x y : Operand} (a b : Nat → Int) (w : World) : (do eqGuard .eql 41 x y (.agg (arr .u8 16 a).toArray) (.agg (arr .u8 16 b).toArray); binOp .eql 41 (.agg (arr .u8 16 a).toArray) (.agg (arr .u8 16 b).toArray)).run Tryd.prog w = .ok (.bool (eqA 16 b a)) w := by
  rw [eqA_comm]; exact eqlT a b w
end Go.Proofs.YtkafnafgmnlnpaaDoor
/- rows of bytes and tokens, read -/
namespace Go.Proofs.YtkafnafgmnlnpaaDoor
open Jal Go Go.RowKit Go.WideShapes
set_option maxRecDepth 100000
theorem okWide_array {P : Program} {w : World} {r : Reach} {base : Nat} {t e : TypeId} {n : Nat} {v : Value} (ht : P.underlying t = some (.array n e)) (h : Value.okWide P w r base t v) : ∃ cs, v = .agg cs := by
  simp only [Value.okWide, ht] at h
  obtain ⟨cs, h1, _⟩ := h
  exact ⟨cs, h1⟩
section
variable {H : Type} {enc : TypeId × Value → H} {w : World} {base : Nat}
theorem cells5 : Tryd.prog.cellsOf 5 = 1 := by kernel_rfl
theorem cells41 : Tryd.prog.cellsOf 41 = 16 := by kernel_rfl
theorem cells23 : Tryd.prog.cellsOf 23 = 32 := by kernel_rfl
theorem dec41 {cs : List Value} (h : Dec enc Tryd.prog w 41 cs) : ∃ f : Nat → Int, cs = arr .u8 16 f ∧ ∀ j, j < 16 → 0 ≤ f j ∧ f j ≤ 255 := by
  obtain ⟨f, h1, h2⟩ := h.arr Tryd.underlying41 Tryd.underlying5 cells5 cells41
  exact ⟨f, h1, fun j hj => wf_u8 (h2 j hj)⟩
theorem bytes_of {n : Nat} {f : Nat → Int} (h : ∀ j, j < n → 0 ≤ f j ∧ f j ≤ 255) : ∃ K : List Nat, arr .u8 n f = bN K ∧ OkB K ∧ K.length = n := by
  refine ⟨(List.range n).map fun i => (f i).toNat, ?_, fun y hy => ?_, by rw [List.length_map, List.length_range]⟩
  · unfold arr bN
    rw [List.map_map]
    apply List.map_congr_left
    intro j hj
    have := h j (List.mem_range.1 hj)
    simp only [Function.comp]
    rw [Int.toNat_of_nonneg this.1]
  · obtain ⟨i, hi, rfl⟩ := List.mem_map.1 hy
    have := h i (List.mem_range.1 hi)
    omega
theorem open23 {v : Value} (h : Value.okWide Tryd.prog w .any base 23 v) (e : Dec enc Tryd.prog w 23 v.cells.toList) :
    ∃ K : List Nat, v = .agg (bN K).toArray ∧ OkB K ∧ K.length = 32 := by
  obtain ⟨cs, rfl⟩ := okWide_array Tryd.underlying23 h
  obtain ⟨f, h1, h2⟩ := e.arr Tryd.underlying23 Tryd.underlying5 cells5 cells23
  obtain ⟨K, h3, h4, h5⟩ := bytes_of (fun i hi => wf_u8 (h2 i hi))
  refine ⟨K, ?_, h4, h5⟩
  have : cs.toList = arr .u8 32 f := h1
  rw [← h3, ← this]
end
end Go.Proofs.YtkafnafgmnlnpaaDoor
/- the facts on types and functions that the walks name, by program -/
namespace Go.Proofs.YtkafnafgmnlnpaaDoor
open Jal
theorem mo : Tryd.prog.follows .mixedOrders = true := by kernel_rfl
theorem ar41 : ArrT Tryd.prog 41 16 1 := ⟨_, Tryd.underlying41, Tryd.sizeOf5⟩
theorem ar85 : ArrT Tryd.prog 85 64 1 := ⟨_, Tryd.underlying85, Tryd.sizeOf5⟩
theorem ar98 : ArrT Tryd.prog 98 64 1 := ⟨_, Tryd.underlying98, Tryd.sizeOf96⟩
theorem ar103 : ArrT Tryd.prog 103 8 1 := ⟨_, Tryd.underlying103, Tryd.sizeOf96⟩
theorem bz23 : ∀ w, (Go.Instr.build 23 #[]).run Tryd.prog w = .ok (.agg ([.int .u8 0, .int .u8 0, .int .u8 0, .int .u8 0, .int .u8 0, .int .u8 0, .int .u8 0, .int .u8 0, .int .u8 0, .int .u8 0, .int .u8 0, .int .u8 0, .int .u8 0, .int .u8 0, .int .u8 0, .int .u8 0, .int .u8 0, .int .u8 0, .int .u8 0, .int .u8 0, .int .u8 0, .int .u8 0, .int .u8 0, .int .u8 0, .int .u8 0, .int .u8 0, .int .u8 0, .int .u8 0, .int .u8 0, .int .u8 0, .int .u8 0, .int .u8 0]).toArray) w := fun w => by kernel_rfl
theorem ex62 : ExternAt Tryd.prog 62 Extern.BytealgCompare.compare := ⟨Tryd.f62, Tryd.func62, by kernel_rfl, by kernel_rfl, by kernel_rfl, by kernel_rfl⟩
theorem hb8 : HasBody Tryd.prog 8 := ⟨Tryd.f8, Tryd.func8, by kernel_rfl, by kernel_rfl⟩
theorem hb9 : HasBody Tryd.prog 9 := ⟨Tryd.f9, Tryd.func9, by kernel_rfl, by kernel_rfl⟩
theorem hb13 : HasBody Tryd.prog 13 := ⟨Tryd.f13, Tryd.func13, by kernel_rfl, by kernel_rfl⟩
theorem hb14 : HasBody Tryd.prog 14 := ⟨Tryd.f14, Tryd.func14, by kernel_rfl, by kernel_rfl⟩
theorem hb15 : HasBody Tryd.prog 15 := ⟨Tryd.f15, Tryd.func15, by kernel_rfl, by kernel_rfl⟩
theorem hb16 : HasBody Tryd.prog 16 := ⟨Tryd.f16, Tryd.func16, by kernel_rfl, by kernel_rfl⟩
theorem hb22 : HasBody Tryd.prog 22 := ⟨Tryd.f22, Tryd.func22, by kernel_rfl, by kernel_rfl⟩
theorem hb31 : HasBody Tryd.prog 31 := ⟨Tryd.f31, Tryd.func31, by kernel_rfl, by kernel_rfl⟩
theorem hb33 : HasBody Tryd.prog 33 := ⟨Tryd.f33, Tryd.func33, by kernel_rfl, by kernel_rfl⟩
theorem hb34 : HasBody Tryd.prog 34 := ⟨Tryd.f34, Tryd.func34, by kernel_rfl, by kernel_rfl⟩
theorem hb35 : HasBody Tryd.prog 35 := ⟨Tryd.f35, Tryd.func35, by kernel_rfl, by kernel_rfl⟩
theorem hb36 : HasBody Tryd.prog 36 := ⟨Tryd.f36, Tryd.func36, by kernel_rfl, by kernel_rfl⟩
theorem hb37 : HasBody Tryd.prog 37 := ⟨Tryd.f37, Tryd.func37, by kernel_rfl, by kernel_rfl⟩
theorem hb38 : HasBody Tryd.prog 38 := ⟨Tryd.f38, Tryd.func38, by kernel_rfl, by kernel_rfl⟩
theorem hb45 : HasBody Tryd.prog 45 := ⟨Tryd.f45, Tryd.func45, by kernel_rfl, by kernel_rfl⟩
theorem hb46 : HasBody Tryd.prog 46 := ⟨Tryd.f46, Tryd.func46, by kernel_rfl, by kernel_rfl⟩
theorem hb47 : HasBody Tryd.prog 47 := ⟨Tryd.f47, Tryd.func47, by kernel_rfl, by kernel_rfl⟩
theorem hb48 : HasBody Tryd.prog 48 := ⟨Tryd.f48, Tryd.func48, by kernel_rfl, by kernel_rfl⟩
theorem hb49 : HasBody Tryd.prog 49 := ⟨Tryd.f49, Tryd.func49, by kernel_rfl, by kernel_rfl⟩
theorem hb57 : HasBody Tryd.prog 57 := ⟨Tryd.f57, Tryd.func57, by kernel_rfl, by kernel_rfl⟩
theorem hb58 : HasBody Tryd.prog 58 := ⟨Tryd.f58, Tryd.func58, by kernel_rfl, by kernel_rfl⟩
theorem hb59 : HasBody Tryd.prog 59 := ⟨Tryd.f59, Tryd.func59, by kernel_rfl, by kernel_rfl⟩
theorem hb60 : HasBody Tryd.prog 60 := ⟨Tryd.f60, Tryd.func60, by kernel_rfl, by kernel_rfl⟩
theorem hb61 : HasBody Tryd.prog 61 := ⟨Tryd.f61, Tryd.func61, by kernel_rfl, by kernel_rfl⟩
theorem hb76 : HasBody Tryd.prog 76 := ⟨Tryd.f76, Tryd.func76, by kernel_rfl, by kernel_rfl⟩
theorem hb77 : HasBody Tryd.prog 77 := ⟨Tryd.f77, Tryd.func77, by kernel_rfl, by kernel_rfl⟩
theorem hb79 : HasBody Tryd.prog 79 := ⟨Tryd.f79, Tryd.func79, by kernel_rfl, by kernel_rfl⟩
theorem hb80 : HasBody Tryd.prog 80 := ⟨Tryd.f80, Tryd.func80, by kernel_rfl, by kernel_rfl⟩
theorem hb86 : HasBody Tryd.prog 86 := ⟨Tryd.f86, Tryd.func86, by kernel_rfl, by kernel_rfl⟩
theorem sl32 : SliT Tryd.prog 32 16 := ⟨_, Tryd.underlying32, Tryd.sizeOf41⟩
theorem sl45 : SliT Tryd.prog 45 1 := ⟨_, Tryd.underlying45, Tryd.sizeOf5⟩
theorem sl77 : SliT Tryd.prog 77 1 := ⟨_, Tryd.underlying77, Tryd.sizeOf45⟩

end Go.Proofs.YtkafnafgmnlnpaaDoor
