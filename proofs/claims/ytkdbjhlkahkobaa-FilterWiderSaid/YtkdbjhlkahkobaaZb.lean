/- several texts of ours, joined: Any, Tail, Held, Mp3, Nxt, Sh, Wa -/
import Derived.Test.YtkdbjhlkahkobaaZa
import Derived.Orders
import Derived.Still
import Derived.Deep.Quiet
import Derived.StillTail
import Derived.OrdersHeld
import Derived.Laws.IdiomRangeMap
import Derived.Shelf.SlSortCmp.WholeK
import Derived.Test.YtkdbjhlkahkobaaProg
/- a region that draws its order, some of whose operations change our own memory: one walk in the order of the text serves every order -/
namespace Jal
open Go Go.RowKit
section
variable {P : Program} {ops : Array Oper} {md : Region.Mode} {Y : Nat → Oper → Value → Act → Prop} {Q : Act → Prop}

/-- operation i yields a value that the law Y knows -/
def oE (ops : Array Oper) (Y : Nat → Oper → Value → Act → Prop) (i : Nat) (K : Act → Prop) (a : Act) : Prop :=
  match ops[i]? with
  | none => K a
  | some o => ∃ v, Y i o v a ∧ K (a.put o.dst v)

def wE (md : Region.Mode) (ops : Array Oper) (Y : Nat → Oper → Value → Act → Prop) (Q : Act → Prop) : Nat → Array Bool → Act → Prop
  | 0, listed, a => Region.ready md ops listed = [] ∧ Q a
  | fuel + 1, listed, a =>
    (Region.ready md ops listed = [] → Q a) ∧
    ∀ i ∈ Region.ready md ops listed, oE ops Y i (wE md ops Y Q fuel (listed.setIfInBounds i true)) a

/-- the walk in the order of the text -/
def wT (ops : Array Oper) (Y : Nat → Oper → Value → Act → Prop) (Q : Act → Prop) : Nat → List Oper → Act → Prop
  | _, [], a => Q a
  | k, o :: rest, a => ∃ v, Y k o v a ∧ wT ops Y Q (k + 1) rest (a.put o.dst v)

/-- what Y says of an operation hangs on what the operation looks at alone -/
def Fit (ops : Array Oper) (Y : Nat → Oper → Value → Act → Prop) : Prop :=
  ∀ i o v a d u, ops[i]? = some o → (∀ x, d = some x → x ∉ o.looksAt ops) → (Y i o v (a.put d u) ↔ Y i o v a)

theorem oE_mono {i : Nat} {a : Act} {K K' : Act → Prop} (h : ∀ a, K a → K' a) (hh : oE ops Y i K a) : oE ops Y i K' a := by
  unfold oE at *
  split
  · exact h _ (by simpa [*] using hh)
  · rename_i o ho
    simp only [ho] at hh
    obtain ⟨v, h1, h2⟩ := hh
    exact ⟨v, h1, h _ h2⟩

theorem oE_put (hF : Fit ops Y) {i j : Nat} {oi oj : Oper} {v : Value} (hi : ops[i]? = some oi) (hj : ops[j]? = some oj) (hap : oi.apart ops oj = true) {K : Act → Prop} {a : Act}
    (hy : Y i oi v a) (h : oE ops Y j K (a.put oi.dst v)) : oE ops Y j (fun a' => Y i oi v a' ∧ K (a'.put oi.dst v)) a := by
  obtain ⟨h1, h2, h3⟩ := Oper.apart_spec hap
  unfold oE at h ⊢
  simp only [hj] at h ⊢
  obtain ⟨u, hu, hn⟩ := h
  refine ⟨u, (hF j oj u a _ v hj h1).1 hu, (hF i oi v a _ u hi h3).2 hy, ?_⟩
  rw [← Act.put_comm a v u h2]; exact hn

theorem wE_first (hF : Fit ops Y) {i : Nat} {oi : Oper} {v : Value} (hi : ops[i]? = some oi) :
    ∀ (fuel : Nat) (listed : Array Bool) (a : Act),
      (∀ j oj, ops[j]? = some oj → j ≠ i → listed.getD j true = false → (∀ e ∈ oj.after, Region.binds md e = true → e.on ≠ i) → oi.apart ops oj = true) →
      i ∈ Region.ready md ops listed → Y i oi v a →
      wE md ops Y Q fuel (listed.setIfInBounds i true) (a.put oi.dst v) → wE md ops Y Q (fuel + 1) listed a := by
  intro fuel
  induction fuel with
  | zero =>
    intro listed a _ hr hy H
    refine ⟨fun h => (by rw [h] at hr; cases hr), fun j hj => ?_⟩
    by_cases hji : j = i
    · subst hji; unfold oE; simp only [hi]; exact ⟨v, hy, H⟩
    · have := ready_mono hj hji
      rw [H.1] at this
      cases this
  | succ fuel ih =>
    intro listed a hfree hr hy H
    refine ⟨fun h => (by rw [h] at hr; cases hr), fun j hj => ?_⟩
    by_cases hji : j = i
    · subst hji; unfold oE; simp only [hi]; exact ⟨v, hy, H⟩
    · have h1 := H.2 j (ready_mono hj hji)
      obtain ⟨hjun, oj, hoj, hall⟩ := mem_ready.1 hj
      have hnot : ∀ e ∈ oj.after, Region.binds md e = true → e.on ≠ i := fun e he hb heq => by
        have h1 := hall e he hb
        have h0 := (mem_ready.1 hr).1
        rw [heq] at h1
        rcases Nat.lt_or_ge i listed.size with h' | h'
        · simp [h'] at h0 h1; rw [h0] at h1; cases h1
        · simp [Array.getElem?_eq_none h'] at h1
      have h2 := oE_put hF hi hoj (hfree j oj hoj hji hjun hnot) hy h1
      have hfree' : ∀ k ok, ops[k]? = some ok → k ≠ i → (listed.setIfInBounds j true).getD k true = false →
          (∀ e ∈ ok.after, Region.binds md e = true → e.on ≠ i) → oi.apart ops ok = true := fun k ok hk hki hun hno => by
        refine hfree k ok hk hki ?_ hno
        by_cases hjk : j = k
        · subst hjk; exact hjun
        · rw [getD_set_ne true hjk] at hun; exact hun
      refine oE_mono (fun a' h3 => ih (listed.setIfInBounds j true) a' hfree' (ready_mono hr (Ne.symm hji)) h3.1 ?_) h2
      rw [Array.setIfInBounds_comm _ _ hji]
      exact h3.2

theorem wE_lex (hF : Fit ops Y) : ∀ (l : List Oper) (k : Nat) (listed : Array Bool) (a : Act), (∀ j, l[j]? = ops[k + j]?) →
    Region.lexFrom md ops l.length k listed = true → wT ops Y Q k l a → wE md ops Y Q l.length listed a
  | [], _, _, _, _, hB, h => ⟨by simpa [Region.lexFrom] using hB, h⟩
  | o :: l, k, listed, a, hl, hB, h => by
    have h0 : ops[k]? = some o := by simpa using (hl 0).symm
    simp only [List.length_cons, Region.lexFrom, Bool.and_eq_true] at hB
    obtain ⟨⟨hr, hf⟩, hB'⟩ := hB
    obtain ⟨v, hy, hK⟩ := h
    exact wE_first hF h0 l.length listed a (Region.free_spec h0 hf) (by simpa using hr) hy
      (wE_lex hF l (k + 1) _ _ (fun j => by have := hl (j + 1); simpa [Nat.add_assoc, Nat.add_comm 1 j] using this) hB' hK)

/-- from the walk to every order: R ties what is seen to what is -/
theorem wpAny_of_wE {Q' : Exit → Act → World → Prop} (R : Array Bool → Act → Act → World → Prop)
    (hQ : ∀ listed a0 a w, Region.ready md ops listed = [] → R listed a0 a w → Q a0 → Q' .normal a w)
    (hS : ∀ listed a0 a w i o v (K : Act → World → Prop), i ∈ Region.ready md ops listed → ops[i]? = some o → R listed a0 a w → Y i o v a0 →
      (∀ a' w', R (listed.setIfInBounds i true) (a0.put o.dst v) a' w' → K a' w') → wpOp P ops Q' i K a w) :
    ∀ (fuel : Nat) (listed : Array Bool) (a0 a : Act) (w : World), R listed a0 a w → wE md ops Y Q fuel listed a0 → wpAny P md ops Q' fuel listed a w
  | 0, _, _, _, _, hR, h => ⟨h.1, hQ _ _ _ _ h.1 hR h.2⟩
  | fuel + 1, listed, a0, a, w, hR, h => by
    refine ⟨fun h0 => hQ _ _ _ _ h0 hR (h.1 h0), fun i hi => ?_⟩
    have h1 := h.2 i hi
    obtain ⟨_, o, ho, _⟩ := mem_ready.1 hi
    unfold oE at h1
    simp only [ho] at h1
    obtain ⟨v, hy, hK⟩ := h1
    exact hS listed a0 a w i o v _ hi ho hR hy fun a' w' hR' => wpAny_of_wE R hQ hS fuel _ _ a' w' hR' hK

end
theorem all_listed {P : Program} {ops : Array Oper} {md : Region.Mode} {listed : Array Bool} (hb : ∀ (i : Nat) (o : Oper), ops[i]? = some o → ∀ e ∈ o.after, Region.binds md e = true → e.on < i) (hz : listed.size = ops.size) (h : Region.ready md ops listed = []) :
    ∀ i, i < ops.size → listed.getD i false = true := by
  intro i
  induction i using Nat.strongRecOn with
  | _ i ih =>
    intro hi
    cases hc : listed.getD i false with
    | true => rfl
    | false =>
      exfalso
      have ho : ops[i]? = some ops[i] := by simp [hi]
      have hr : i ∈ Region.ready md ops listed := by
        refine mem_ready.2 ⟨?_, ops[i], ho, fun e he hbd => ih e.on (hb i _ ho e he hbd) (Nat.lt_trans (hb i _ ho e he hbd) hi)⟩
        have hil : i < listed.size := by omega
        simp [hil] at hc ⊢
        exact hc
      rw [h] at hr
      cases hr

/-- one variable made in the region: its alloc, its store -/
structure Eff where
  ia : Nat
  d : Nat
  t : TypeId
  zs : List Value
  is : Nat
  x : Operand
  vs : List Value

def putL : List (Nat × Value) → Act → Act
  | [], a => a
  | p :: L, a => (putL L a).put (some p.1) p.2

theorem putL_put : ∀ (L : List (Nat × Value)) (a : Act) (d : Option Nat) (v : Value), (∀ p ∈ L, d ≠ some p.1) → putL L (a.put d v) = (putL L a).put d v
  | [], _, _, _, _ => rfl
  | p :: L, a, d, v, h => by
    show (putL L (a.put d v)).put (some p.1) p.2 = _
    rw [putL_put L a d v (fun q hq => h q (by simp [hq]))]
    exact Act.put_comm _ _ _ (fun x hx hc => h p (by simp) (by rw [hx, hc]))
theorem putL_exec {ops : Array Oper} {o : Oper} (hs : ∀ cs b, o.op ≠ .select cs b) : ∀ (L : List (Nat × Value)) (a : Act), (∀ p ∈ L, p.1 ∉ o.looksAt ops) → execOp (putL L a).eval o = execOp a.eval o
  | [], _, _ => rfl
  | p :: L, a, h => by
    show execOp ((putL L a).put (some p.1) p.2).eval o = _
    rw [execOp_put o hs _ (some p.1) p.2 (ops := ops) (fun d hd => by cases hd; exact h p (by simp))]
    exact putL_exec hs L a (fun q hq => h q (by simp [hq]))
theorem putL_wanted {ops : Array Oper} {o : Oper} : ∀ (L : List (Nat × Value)) (a : Act), (∀ p ∈ L, p.1 ∉ o.looksAt ops) → Region.wanted o (yielded ops (putL L a).tmps) = Region.wanted o (yielded ops a.tmps)
  | [], _, _ => rfl
  | p :: L, a, h => by
    show Region.wanted o (yielded ops ((putL L a).put (some p.1) p.2).tmps) = _
    rw [wanted_put o _ (some p.1) p.2 (fun d hd => by cases hd; exact h p (by simp))]
    exact putL_wanted L a (fun q hq => h q (by simp [hq]))
theorem put_put (a : Act) (d : Nat) (u v : Value) : (a.put (some d) u).put (some d) v = a.put (some d) v := by
  simp [Act.put]

def ptr (b : Nat) : Value := .pointer (some ⟨b, 0, none⟩)
def entOf (β : Nat → Nat) (listed : Nat → Bool) (e : Eff) : Ent := ⟨β e.ia, bif listed e.is then e.vs else e.zs, e.t⟩
def tailE (β : Nat → Nat) (listed : Nat → Bool) (es : List Eff) : List Ent := (es.filter (fun e => listed e.ia)).map (entOf β listed)

structure EffOk (P : Program) (ops : Array Oper) (es : List Eff) : Prop where
  a : ∀ e ∈ es, ∃ ty pos af, ops[e.ia]? = some ⟨some e.d, .alloc e.t, ty, pos, af, none⟩
  s : ∀ e ∈ es, ∃ ty pos af, ops[e.is]? = some ⟨none, .store e.t (.tmp e.d) e.x, ty, pos, af, none⟩ ∧ ∃ g ∈ af, g.on = e.ia ∧ Region.binds .any g = true
  z : ∀ e ∈ es, ∃ z, (∀ w, (zeroValue e.t).run P w = .ok z w) ∧ z.cells.toList = e.zs
  k : ∀ e ∈ es, ∀ w, (Go.sizeOf e.t).run P w = .ok e.vs.length w
  len : ∀ e ∈ es, e.zs.length = e.vs.length
  one : ∀ e ∈ es, ∀ v ∈ e.vs, v.oneCell' = true
  dif : es.Pairwise (fun e f => e.ia ≠ f.ia ∧ e.d ≠ f.d ∧ e.is ≠ f.is)
  ns : ∀ e ∈ es, ∀ f ∈ es, e.ia ≠ f.is
  sep : ∀ (i : Nat) (o : Oper), ops[i]? = some o → (∀ e ∈ es, e.ia ≠ i ∧ e.is ≠ i) → ∀ e ∈ es, e.d ∉ o.looksAt ops ∧ o.dst ≠ some e.d
  xs : ∀ e ∈ es, ∀ f ∈ es, e.x ≠ .tmp f.d
  sel : Region.noSelect ops = true

/-- what an operation yields: an effect nothing that the others see; another one its value, whatever the new blocks hold -/
def YE (P : Program) (ops : Array Oper) (w0 : World) (H : List Ent) (es : List Eff) (i : Nat) (o : Oper) (v : Value) (a : Act) : Prop :=
  (∃ e ∈ es, e.ia = i ∧ v = undef) ∨
  (∃ e ∈ es, e.is = i ∧ v = undef ∧ a.eval e.x = .agg e.vs.toArray) ∨
  ((∀ e ∈ es, e.ia ≠ i ∧ e.is ≠ i) ∧ ((Region.wanted o (yielded ops a.tmps) = true ∧ ∀ T w, Sat w0 (H ++ T) w → o.quietAt P a (Sat w0 (H ++ T)) w v) ∨
    (Region.wanted o (yielded ops a.tmps) = false ∧ v = undef)))

theorem fitE {P : Program} {ops : Array Oper} {w0 : World} {H : List Ent} {es : List Eff} (ok : EffOk P ops es) : Fit ops (YE P ops w0 H es) := by
  intro i o v a d u hi hd
  have hs : ∀ cs b, o.op ≠ .select cs b := fun cs b => Region.noSelect_spec ok.sel i o cs b hi
  have e1 : execOp (a.put d u).eval o = execOp a.eval o := execOp_put o hs a d u hd
  have e2 : Region.wanted o (yielded ops (a.put d u).tmps) = Region.wanted o (yielded ops a.tmps) := wanted_put o a d u hd
  have e3 : ∀ e ∈ es, e.is = i → (a.put d u).eval e.x = a.eval e.x := by
    intro e he hei
    refine Act.eval_put fun x hx hc => hd x hx ?_
    obtain ⟨ty, pos, af, hso, _⟩ := ok.s e he
    rw [hei, hi] at hso
    cases hso
    unfold Oper.looksAt
    refine List.mem_append_left _ (List.mem_filterMap.2 ⟨.tmp x, ?_, rfl⟩)
    simp [Op.operands, hc]
  unfold YE Oper.quietAt
  rw [e1, e2]
  constructor
  · rintro (h | ⟨e, he, hei, hv, hx⟩ | h)
    · exact .inl h
    · exact .inr (.inl ⟨e, he, hei, hv, by rw [← e3 e he hei]; exact hx⟩)
    · exact .inr (.inr h)
  · rintro (h | ⟨e, he, hei, hv, hx⟩ | h)
    · exact .inl h
    · exact .inr (.inl ⟨e, he, hei, hv, by rw [e3 e he hei]; exact hx⟩)
    · exact .inr (.inr h)

theorem dif_ne : ∀ {es : List Eff}, es.Pairwise (fun e f => e.ia ≠ f.ia ∧ e.d ≠ f.d ∧ e.is ≠ f.is) → ∀ e ∈ es, ∀ f ∈ es, e ≠ f → e.ia ≠ f.ia ∧ e.d ≠ f.d ∧ e.is ≠ f.is
  | [], _, _, he, _, _, _ => by cases he
  | x :: es, h, e, he, f, hf, hne => by
    obtain ⟨h1, h2⟩ := List.pairwise_cons.1 h
    rcases List.mem_cons.1 he with h3 | h3 <;> rcases List.mem_cons.1 hf with h4 | h4
    · exact absurd (h3.trans h4.symm) hne
    · rw [h3]; exact h1 f h4
    · rw [h4]; obtain ⟨a, b, c⟩ := h1 e h3; exact ⟨a.symm, b.symm, c.symm⟩
    · exact dif_ne h2 e h3 f h4 hne

/-- own blocks and the new ones, one by one -/
theorem tail_iff {w0 : World} {H : List Ent} {es : List Eff} {β : Nat → Nat} {L : Nat → Bool} {w : World} :
    Sat w0 (H ++ tailE β L es) w ↔ Sat w0 H w ∧
      (∀ e ∈ es, L e.ia = true → w0.heap.size ≤ β e.ia ∧ w.heap[β e.ia]? = some (.cells (bif L e.is then e.vs else e.zs).toArray e.t (0, 0))) ∧
      (∀ h ∈ H, ∀ e ∈ es, L e.ia = true → h.b ≠ β e.ia) ∧ es.Pairwise (fun e f => L e.ia = true → L f.ia = true → β e.ia ≠ β f.ia) := by
  constructor
  · intro h
    have ha := List.pairwise_append.1 h.apart
    refine ⟨h.sub (List.sublist_append_left _ _), fun e he hl => ?_, fun x hx e he hl => ?_, ?_⟩
    · exact h.own (entOf β L e) (List.mem_append_right _ (List.mem_map.2 ⟨e, List.mem_filter.2 ⟨he, hl⟩, rfl⟩))
    · exact ha.2.2 x hx (entOf β L e) (List.mem_map.2 ⟨e, List.mem_filter.2 ⟨he, hl⟩, rfl⟩)
    · have := ha.2.1
      unfold tailE at this
      rw [List.pairwise_map] at this
      exact List.pairwise_filter.1 this
  · rintro ⟨h1, h2, h3, h4⟩
    refine ⟨h1.below, fun x hx => ?_, List.pairwise_append.2 ⟨h1.apart, ?_, fun x hx y hy => ?_⟩⟩
    · rcases List.mem_append.1 hx with hx | hx
      · exact h1.own x hx
      · obtain ⟨e, he, rfl⟩ := List.mem_map.1 hx
        obtain ⟨he, hl⟩ := List.mem_filter.1 he
        exact h2 e he hl
    · unfold tailE
      rw [List.pairwise_map]
      exact List.pairwise_filter.2 h4
    · obtain ⟨e, he, rfl⟩ := List.mem_map.1 hy
      obtain ⟨he, hl⟩ := List.mem_filter.1 he
      exact h3 x hx e he hl

def RE (ops : Array Oper) (w0 : World) (H : List Ent) (es : List Eff) (n : Nat) (listed : Array Bool) (a0 a : Act) (w : World) : Prop :=
  listed.size = ops.size ∧ a0.tmps.size = n ∧ (∀ e ∈ es, listed.getD e.is false = true → listed.getD e.ia false = true) ∧ ∃ (L : List (Nat × Value)) (β : Nat → Nat), a = putL L a0 ∧ (∀ p ∈ L, ∃ e ∈ es, listed.getD e.ia false = true ∧ p = (e.d, ptr (β e.ia))) ∧
    (∀ e ∈ es, listed.getD e.ia false = true → (e.d, ptr (β e.ia)) ∈ L) ∧ L.Pairwise (fun p q => p.1 ≠ q.1) ∧ Sat w0 (H ++ tailE β (fun i => listed.getD i false) es) w

theorem putL_size : ∀ (L : List (Nat × Value)) (a : Act), (putL L a).tmps.size = a.tmps.size
  | [], _ => rfl
  | p :: L, a => by show ((putL L a).put (some p.1) p.2).tmps.size = _; simp [Act.put, putL_size L a]
theorem putL_get : ∀ (L : List (Nat × Value)) (a : Act) (d : Nat) (v : Value), (d, v) ∈ L → L.Pairwise (fun p q => p.1 ≠ q.1) → d < a.tmps.size → (putL L a).eval (.tmp d) = v
  | [], _, _, _, h, _, _ => by cases h
  | p :: L, a, d, v, h, hp, hd => by
    obtain ⟨h1, h2⟩ := List.pairwise_cons.1 hp
    show ((putL L a).put (some p.1) p.2).eval (.tmp d) = v
    rcases List.mem_cons.1 h with rfl | h
    · simp [Act.eval, Act.put, putL_size, hd]
    · rw [Act.eval_put (fun x hx hc => by cases hx; cases hc; exact h1 _ h rfl)]
      exact putL_get L a d v h h2 hd
theorem putL_other : ∀ (L : List (Nat × Value)) (a : Act) (x : Operand), (∀ p ∈ L, x ≠ .tmp p.1) → (putL L a).eval x = a.eval x
  | [], _, _, _ => rfl
  | p :: L, a, x, h => by
    show ((putL L a).put (some p.1) p.2).eval x = _
    rw [Act.eval_put (fun d hd hc => by cases hd; exact h p (by simp) hc)]
    exact putL_other L a x (fun q hq => h q (by simp [hq]))

theorem getD_set_self {listed : Array Bool} {i : Nat} (h : i < listed.size) : (listed.setIfInBounds i true).getD i false = true := by simp [h]
theorem getD_undo {listed : Array Bool} {i j : Nat} (h : (listed.setIfInBounds i true).getD j false = true) : j = i ∨ listed.getD j false = true := by
  by_cases hij : i = j
  · exact .inl hij.symm
  · rw [getD_set_ne false hij] at h; exact .inr h

section
variable {P : Program} {ops : Array Oper} {w0 : World} {H : List Ent} {es : List Eff} {n : Nat} {Q' : Exit → Act → World → Prop} {listed : Array Bool} {a0 a : Act} {w : World} {o : Oper} {i : Nat} {K : Act → World → Prop} {v : Value}

theorem step_alloc (ok : EffOk P ops es) (hi : i ∈ Region.ready .any ops listed) (ho : ops[i]? = some o) (hR : RE ops w0 H es n listed a0 a w) {e : Eff} (he : e ∈ es) (hei : e.ia = i) (hv : v = undef)
    (hK : ∀ a' w', RE ops w0 H es n (listed.setIfInBounds i true) (a0.put o.dst v) a' w' → K a' w') : wpOp P ops Q' i K a w := by
  obtain ⟨hz, hn, hdep, L, β, rfl, hL1, hL2, hL3, hS⟩ := hR
  obtain ⟨ty, pos, af, ho'⟩ := ok.a e he
  rw [hei, ho] at ho'
  cases ho'
  subst hv
  obtain ⟨z, hz1, hz2⟩ := ok.z e he
  have hun : listed.getD i false = false := by
    have h1 := (mem_ready.1 hi).1
    have hlt : i < listed.size := by rw [hz]; exact (Array.getElem?_eq_some_iff.1 ho).1
    simpa [hlt] using h1
  have hlt : i < listed.size := by rw [hz]; exact (Array.getElem?_eq_some_iff.1 ho).1
  have hother : ∀ f ∈ es, listed.getD f.ia false = true → f.ia ≠ e.ia := fun f hf hl hc => by rw [hc, hei, hun] at hl; cases hl
  have hne : ∀ p ∈ L, some e.d ≠ some p.1 := fun p hp hc => by
    obtain ⟨f, hf, hfl, rfl⟩ := hL1 p hp
    have hfe : f ≠ e := fun h => hother f hf hfl (by rw [h])
    exact (dif_ne ok.dif f hf e he hfe).2.1 (by simpa using hc.symm)
  unfold wpOp
  simp only [ho]
  rw [if_pos (by rfl)]
  left
  have hc : z.cells = e.zs.toArray := by rw [← hz2]
  have hr : (execOp (putL L a0).eval ⟨some e.d, .alloc e.t, ty, pos, af, none⟩).run P w = .ok (.value (ptr w.heap.size)) (w.alloc (.cells e.zs.toArray e.t)) := by
    simp [execOp, Instr.alloc, hz1, newVar, newRow, newObj, Sem.run, hc, ptr]
  unfold Oper.wp
  rw [hr]
  refine hK _ _ ⟨by simpa using hz, by simpa [Act.put] using hn, fun f hf hfs => ?_, (e.d, ptr w.heap.size) :: L, fun k => if k = e.ia then w.heap.size else β k, ?_, ?_, ?_, ?_, ?_⟩
  · rcases getD_undo hfs with h | h
    · exact absurd (hei.trans h.symm) (ok.ns e he f hf)
    · exact getD_set_true (hdep f hf h)
  · show _ = (putL L (a0.put (some e.d) undef)).put (some e.d) _
    rw [putL_put L a0 _ _ hne, put_put]
  · intro p hp
    rcases List.mem_cons.1 hp with rfl | hp
    · exact ⟨e, he, by rw [hei]; exact getD_set_self hlt, by simp⟩
    · obtain ⟨f, hf, hfl, rfl⟩ := hL1 p hp
      exact ⟨f, hf, getD_set_true hfl, by simp [hother f hf hfl]⟩
  · intro f hf hfl
    rcases getD_undo hfl with h | h
    · have hfe : f = e := by
        by_cases hfe : f = e
        · exact hfe
        · exact absurd (h.trans hei.symm) (dif_ne ok.dif f hf e he hfe).1
      subst hfe; simp
    · simp [hother f hf h, hL2 f hf h]
  · exact List.pairwise_cons.2 ⟨fun p hp hc => hne p hp (by simpa using hc), hL3⟩
  · obtain ⟨h1, h2, h3, h4⟩ := tail_iff.1 hS
    have hb : Below w.heap.size w (w.alloc (.cells e.zs.toArray e.t)) := (Below.refl _ _).alloc (Nat.le_refl _) _
    have hnots : ∀ f ∈ es, f.is ≠ i := fun f hf h => ok.ns e he f hf (hei.trans h.symm)
    refine tail_iff.2 ⟨h1.step hb, fun f hf hfl => ?_, fun x hx f hf hfl => ?_, ?_⟩
    · rcases getD_undo hfl with h | h
      · have hfe : f = e := by
          by_cases hfe : f = e
          · exact hfe
          · exact absurd (h.trans hei.symm) (dif_ne ok.dif f hf e he hfe).1
        subst hfe
        have hun' : listed.getD f.ia false = false := by rw [hei]; exact hun
        have hns : (listed.setIfInBounds i true).getD f.is false = false := by
          rw [getD_set_ne false (Ne.symm (hnots f hf))]
          cases hq : listed.getD f.is false with
          | false => rfl
          | true => rw [hdep f hf hq] at hun'; cases hun'
        simp only [if_pos, hns, cond_false]
        exact ⟨h1.size, heap_alloc_new w _⟩
      · simp only [if_neg (hother f hf h)]
        rw [getD_set_ne false (Ne.symm (hnots f hf))]
        obtain ⟨g1, g2⟩ := h2 f hf h
        exact ⟨g1, (hb.block _ (Array.getElem?_eq_some_iff.1 g2).1).trans g2⟩
    · rcases getD_undo hfl with h | h
      · have := h1.lt hx
        rw [hei.symm] at h
        simp only [h, if_true]; omega
      · simp only [if_neg (hother f hf h)]; exact h3 x hx f hf h
    · refine List.Pairwise.imp_of_mem (fun {f g} hf hg hh hfl hgl => ?_) (h4.and ok.dif)
      obtain ⟨hh1, hh2, _⟩ := hh
      rcases getD_undo hfl with hf1 | hf1 <;> rcases getD_undo hgl with hg1 | hg1
      · exact absurd (hf1.trans hg1.symm) hh2
      · have hlt2 := (Array.getElem?_eq_some_iff.1 (h2 g hg hg1).2).1
        have e1 : f.ia = e.ia := hf1.trans hei.symm
        simp only [e1, if_true, if_neg (hother g hg hg1)]; omega
      · have hlt2 := (Array.getElem?_eq_some_iff.1 (h2 f hf hf1).2).1
        have e1 : g.ia = e.ia := hg1.trans hei.symm
        simp only [e1, if_true, if_neg (hother f hf hf1)]; omega
      · simp only [if_neg (hother f hf hf1), if_neg (hother g hg hg1)]; exact hh1 hf1 hg1

theorem put_size (a : Act) (d : Option Nat) (v : Value) : (a.put d v).tmps.size = a.tmps.size := by cases d <;> simp [Act.put]
theorem pw_ne {β : Nat → Nat} {L : Nat → Bool} : ∀ {es : List Eff}, es.Pairwise (fun e f => L e.ia = true → L f.ia = true → β e.ia ≠ β f.ia) → ∀ e ∈ es, ∀ f ∈ es, e ≠ f → L e.ia = true → L f.ia = true → β e.ia ≠ β f.ia
  | [], _, _, he, _, _, _ => by cases he
  | x :: es, h, e, he, f, hf, hne => by
    obtain ⟨h1, h2⟩ := List.pairwise_cons.1 h
    rcases List.mem_cons.1 he with h3 | h3 <;> rcases List.mem_cons.1 hf with h4 | h4
    · exact absurd (h3.trans h4.symm) hne
    · rw [h3]; exact h1 f h4
    · rw [h4]; intro a b c; exact h1 e h3 b a c.symm
    · exact pw_ne h2 e h3 f h4 hne

theorem step_quiet (ok : EffOk P ops es) (ho : ops[i]? = some o) (hR : RE ops w0 H es n listed a0 a w) (hne : ∀ e ∈ es, e.ia ≠ i ∧ e.is ≠ i)
    (hq : (Region.wanted o (yielded ops a0.tmps) = true ∧ ∀ T w, Sat w0 (H ++ T) w → o.quietAt P a0 (Sat w0 (H ++ T)) w v) ∨ (Region.wanted o (yielded ops a0.tmps) = false ∧ v = undef))
    (hK : ∀ a' w', RE ops w0 H es n (listed.setIfInBounds i true) (a0.put o.dst v) a' w' → K a' w') : wpOp P ops Q' i K a w := by
  obtain ⟨hz, hn, hdep, L, β, rfl, hL1, hL2, hL3, hS⟩ := hR
  have hs : ∀ cs b, o.op ≠ .select cs b := fun cs b => Region.noSelect_spec ok.sel i o cs b ho
  have hlook : ∀ p ∈ L, p.1 ∉ o.looksAt ops := fun p hp => by obtain ⟨f, hf, _, rfl⟩ := hL1 p hp; exact (ok.sep i o ho hne f hf).1
  have hdst : ∀ p ∈ L, o.dst ≠ some p.1 := fun p hp => by obtain ⟨f, hf, _, rfl⟩ := hL1 p hp; exact (ok.sep i o ho hne f hf).2
  have e1 := putL_exec (ops := ops) hs L a0 hlook
  have e2 := putL_wanted (ops := ops) (o := o) L a0 hlook
  have s1 : ∀ f ∈ es, (listed.setIfInBounds i true).getD f.ia false = listed.getD f.ia false := fun f hf => getD_set_ne false (Ne.symm (hne f hf).1)
  have s2 : ∀ f ∈ es, (listed.setIfInBounds i true).getD f.is false = listed.getD f.is false := fun f hf => getD_set_ne false (Ne.symm (hne f hf).2)
  have htail : tailE β (fun j => (listed.setIfInBounds i true).getD j false) es = tailE β (fun j => listed.getD j false) es := by
    unfold tailE
    rw [List.filter_congr (q := fun e => listed.getD e.ia false) (fun f hf => s1 f hf)]
    exact List.map_congr_left (fun f hf => by have h := s2 f (List.mem_filter.1 hf).1; simp only [entOf, h])
  have hgo : ∀ w', Sat w0 (H ++ tailE β (fun j => listed.getD j false) es) w' → K ((putL L a0).put o.dst v) w' := fun w' hw' =>
    hK _ _ ⟨by simpa using hz, by rw [put_size]; exact hn, fun f hf h => by rw [s1 f hf]; exact hdep f hf (by rw [← s2 f hf]; exact h), L, β, (putL_put L a0 o.dst v hdst).symm,
      fun p hp => by obtain ⟨f, hf, h1, h2⟩ := hL1 p hp; exact ⟨f, hf, by rw [s1 f hf]; exact h1, h2⟩, fun f hf h => hL2 f hf (by rw [← s1 f hf]; exact h), hL3, by rw [htail]; exact hw'⟩
  unfold wpOp
  simp only [ho]
  rw [e2]
  rcases hq with ⟨hw, hq⟩ | ⟨hw, rfl⟩
  · rw [if_pos hw]
    left
    refine Oper.wp_of_quiet (C := Sat w0 (H ++ tailE β (fun j => listed.getD j false) es)) (K := fun a => a = (putL L a0).put o.dst v) hS (fun a' w' hw' ha => by subst ha; exact hgo w' hw') ⟨v, fun w1 hw1 => ?_, rfl⟩
    have h := hq _ w1 hw1
    unfold Oper.quietAt at h ⊢
    rw [e1]
    exact h
  · rw [if_neg (by simp [hw])]
    exact hgo w hS

theorem step_store (ok : EffOk P ops es) (hdn : ∀ e ∈ es, e.d < n) (hi : i ∈ Region.ready .any ops listed) (ho : ops[i]? = some o) (hR : RE ops w0 H es n listed a0 a w) {e : Eff} (he : e ∈ es) (hei : e.is = i) (hv : v = undef)
    (hx : a0.eval e.x = .agg e.vs.toArray)
    (hK : ∀ a' w', RE ops w0 H es n (listed.setIfInBounds i true) (a0.put o.dst v) a' w' → K a' w') : wpOp P ops Q' i K a w := by
  obtain ⟨hz, hn, hdep, L, β, rfl, hL1, hL2, hL3, hS⟩ := hR
  obtain ⟨ty, pos, af, ho', g, hg, hgo, hgb⟩ := ok.s e he
  rw [hei, ho] at ho'
  cases ho'
  subst hv
  have hlt : i < listed.size := by rw [hz]; exact (Array.getElem?_eq_some_iff.1 ho).1
  have hun : listed.getD i false = false := by
    have h1 := (mem_ready.1 hi).1
    simpa [hlt] using h1
  have hal : listed.getD e.ia false = true := by
    obtain ⟨_, o2, ho2, hall⟩ := mem_ready.1 hi
    rw [ho] at ho2
    cases ho2
    rw [← hgo]
    exact hall g hg hgb
  have hother : ∀ f ∈ es, f ≠ e → f.is ≠ i := fun f hf hfe h => (dif_ne ok.dif f hf e he hfe).2.2 (h.trans hei.symm)
  have hnota : ∀ f ∈ es, f.ia ≠ i := fun f hf h => ok.ns f hf e he (h.trans hei.symm)
  have s1 : ∀ f ∈ es, (listed.setIfInBounds i true).getD f.ia false = listed.getD f.ia false := fun f hf => getD_set_ne false (Ne.symm (hnota f hf))
  have s2 : ∀ f ∈ es, f ≠ e → (listed.setIfInBounds i true).getD f.is false = listed.getD f.is false := fun f hf hfe => getD_set_ne false (Ne.symm (hother f hf hfe))
  have hp : (putL L a0).eval (.tmp e.d) = ptr (β e.ia) := putL_get L a0 e.d _ (hL2 e he hal) hL3 (by rw [hn]; exact hdn e he)
  have hxx : (putL L a0).eval e.x = .agg e.vs.toArray := by
    rw [putL_other L a0 e.x (fun p hp => by obtain ⟨f, hf, _, rfl⟩ := hL1 p hp; exact ok.xs e he f hf)]
    exact hx
  obtain ⟨h1, h2, h3, h4⟩ := tail_iff.1 hS
  have hb := (h2 e he hal).2
  simp only [hei, hun, cond_false] at hb
  have hlen := ok.len e he
  have hst := run_storeCells_at P (β e.ia) 0 e.t e.vs 0 e.zs.toArray w hb (by simp [hlen]) (ok.one e he)
  have hk := ok.k e he
  have hr : (execOp (putL L a0).eval ⟨none, .store e.t (.tmp e.d) e.x, ty, pos, af, none⟩).run P w = .ok .skip (w.setRow (β e.ia) e.vs.toArray) := by
    simp only [Nat.add_zero] at hst
    simp [execOp, hp, hxx, ptr, Instr.storeAt, Instr.sureAddr, storeVar, hk, hst, Value.cells, ← hlen]
  have hmem : entOf β (fun j => listed.getD j false) e ∈ H ++ tailE β (fun j => listed.getD j false) es := List.mem_append_right _ (List.mem_map.2 ⟨e, List.mem_filter.2 ⟨he, hal⟩, rfl⟩)
  obtain ⟨j, hj⟩ := List.getElem?_of_mem hmem
  have hset := hS.set hj e.vs
  have hjl : j < (H ++ tailE β (fun j => listed.getD j false) es).length := (List.getElem?_eq_some_iff.1 hj).1
  unfold wpOp
  simp only [ho]
  rw [if_pos (by rfl)]
  left
  unfold Oper.wp
  rw [hr]
  refine hK _ _ ⟨by simpa using hz, by rw [put_size]; exact hn, fun f hf hfs => ?_, L, β, rfl, fun p hp => ?_, fun f hf h => hL2 f hf (by rw [← s1 f hf]; exact h), hL3, ?_⟩
  · rw [s1 f hf]
    by_cases hfe : f = e
    · rw [hfe]; exact hal
    · exact hdep f hf (by rw [← s2 f hf hfe]; exact hfs)
  · obtain ⟨f, hf, g1, g2⟩ := hL1 p hp
    exact ⟨f, hf, by rw [s1 f hf]; exact g1, g2⟩
  · have hbl : Below w0.heap.size w0 (w.setRow (β e.ia) e.vs.toArray) := hset.below
    refine tail_iff.2 ⟨⟨hbl, fun x hx => ⟨(h1.own x hx).1, ?_⟩, h1.apart⟩, fun f hf hfl => ?_, fun x hx f hf hfl => h3 x hx f hf (by rw [← s1 f hf]; exact hfl), ?_⟩
    · rw [setRow_other w _ _ _ (h3 x hx e he hal)]; exact (h1.own x hx).2
    · rw [s1 f hf] at hfl
      by_cases hfe : f = e
      · subst hfe
        refine ⟨(h2 f he hal).1, ?_⟩
        have := (hset.own ⟨β f.ia, f.vs, f.t⟩ (List.mem_iff_getElem?.2 ⟨j, by rw [List.getElem?_set_self hjl]; rfl⟩)).2
        rw [hei, getD_set_self hlt]
        exact this
      · rw [s2 f hf hfe]
        obtain ⟨g1, g2⟩ := h2 f hf hfl
        refine ⟨g1, ?_⟩
        rw [setRow_other w _ _ _ (pw_ne (L := fun j => listed.getD j false) h4 f hf e he hfe hfl hal)]
        exact g2
    · refine List.Pairwise.imp_of_mem (fun {f g} hf hg hh hfl hgl => ?_) h4
      rw [s1 f hf] at hfl
      rw [s1 g hg] at hgl
      exact hh hfl hgl
end

def putF : List (Nat × Value) → (Nat → Value) → Nat → Value
  | [], G => G
  | p :: L, G => upd (putF L G) p.1 p.2
theorem putL_fr (n : Nat) : ∀ (L : List (Nat × Value)) (G : Nat → Value), putL L (fr n G) = fr n (putF L G)
  | [], _ => rfl
  | p :: L, G => by
    show (putL L (fr n G)).put (some p.1) p.2 = _
    rw [putL_fr n L G, fr_put]; rfl
theorem upd_self (F : Nat → Value) (d : Nat) (v : Value) : upd F d v d = v := by simp [upd]
theorem upd_ne (F : Nat → Value) {d t : Nat} (v : Value) (h : t ≠ d) : upd F d v t = F t := by
  unfold upd
  cases hb : Nat.beq t d with
  | true => exact absurd (Nat.eq_of_beq_eq_true hb) h
  | false => rfl
theorem putF_mem : ∀ (L : List (Nat × Value)) (G : Nat → Value) (t : Nat) (v : Value), (t, v) ∈ L → L.Pairwise (fun p q => p.1 ≠ q.1) → putF L G t = v
  | [], _, _, _, h, _ => by cases h
  | p :: L, G, t, v, h, hp => by
    obtain ⟨h1, h2⟩ := List.pairwise_cons.1 hp
    rcases List.mem_cons.1 h with rfl | h
    · exact upd_self _ _ _
    · show upd (putF L G) p.1 p.2 t = v
      rw [upd_ne _ _ (fun hc => h1 _ h hc.symm)]
      exact putF_mem L G t v h h2
theorem putF_not : ∀ (L : List (Nat × Value)) (G : Nat → Value) (t : Nat), (∀ p ∈ L, t ≠ p.1) → putF L G t = G t
  | [], _, _, _ => rfl
  | p :: L, G, t, h => by
    show upd (putF L G) p.1 p.2 t = _
    rw [upd_ne _ _ (h p (by simp))]
    exact putF_not L G t (fun q hq => h q (by simp [hq]))
def foldE (β : Nat → Nat) (es : List Eff) (G : Nat → Value) : Nat → Value := es.foldl (fun F e => upd F e.d (ptr (β e.ia))) G
theorem foldE_not (β : Nat → Nat) : ∀ (es : List Eff) (G : Nat → Value) (t : Nat), (∀ e ∈ es, t ≠ e.d) → foldE β es G t = G t
  | [], _, _, _ => rfl
  | e :: es, G, t, h => by
    show foldE β es (upd G e.d (ptr (β e.ia))) t = _
    rw [foldE_not β es _ t (fun f hf => h f (by simp [hf])), upd_ne _ _ (h e (by simp))]
theorem foldE_mem (β : Nat → Nat) : ∀ (es : List Eff) (G : Nat → Value) (e : Eff), e ∈ es → es.Pairwise (fun e f => e.ia ≠ f.ia ∧ e.d ≠ f.d ∧ e.is ≠ f.is) → foldE β es G e.d = ptr (β e.ia)
  | [], _, _, h, _ => by cases h
  | f :: es, G, e, h, hp => by
    obtain ⟨h1, h2⟩ := List.pairwise_cons.1 hp
    show foldE β es (upd G f.d (ptr (β f.ia))) e.d = _
    rcases List.mem_cons.1 h with h3 | h3
    · rw [h3, foldE_not β es _ _ (fun g hg => (h1 g hg).2.1), upd_self]
    · exact foldE_mem β es _ e h3 h2

def backB (ops : Array Oper) : Bool := (List.range ops.size).all fun i => match ops[i]? with
  | some o => o.after.all fun e => !Region.binds .any e || Nat.blt e.on i
  | none => true
theorem backB_spec {ops : Array Oper} (h : backB ops = true) (i : Nat) (o : Oper) (ho : ops[i]? = some o) : ∀ e ∈ o.after, Region.binds .any e = true → e.on < i := by
  intro e he hb
  unfold backB at h
  have h1 := List.all_eq_true.1 h i (List.mem_range.2 (Array.getElem?_eq_some_iff.1 ho).1)
  rw [ho] at h1
  have h2 := Array.all_eq_true'.1 h1 e he
  rw [hb] at h2
  have h3 : e.on < i := by simpa using h2
  exact h3
theorem cregE {P : Program} {Q : Exit → Act → World → Prop} {w0 : World} {H : List Ent} {n : Nat} {F : Nat → Value} {id : Nat} {l : List Oper} (es : List Eff) (hm : P.follows .mixedOrders = true) (hB : Region.lexB .any l.toArray = true)
    (hb : backB l.toArray = true) (ok : EffOk P l.toArray es) (hdn : ∀ e ∈ es, e.d < n) (h : wT l.toArray (YE P l.toArray w0 H es) (fun a' => ∃ G, a' = fr n G ∧ ∀ β : Nat → Nat, NQ Q w0 (H ++ es.map (fun e => ⟨β e.ia, e.vs, e.t⟩)) .normal n (foldE β es G)) 0 l (fr n F)) : WC P Q w0 H (.region id l.toArray true) n F := by
  intro w hw
  refine wp_region_any hm ?_
  simp only [Region.lexB, Bool.and_eq_true] at hB
  have hE := wE_lex (md := .any) (fitE ok) l 0 (Array.replicate l.toArray.size false) (fr n F) (by simp) (by simpa using hB.2) h
  refine wpAny_of_wE (Q := fun a' => ∃ G, a' = fr n G ∧ ∀ β : Nat → Nat, NQ Q w0 (H ++ es.map (fun e => ⟨β e.ia, e.vs, e.t⟩)) .normal n (foldE β es G)) (Y := YE P l.toArray w0 H es) (RE l.toArray w0 H es n) ?_ ?_ _ _ (fr n F) _ _ ?_ (by simpa using hE)
  · intro listed a0 a w hr hR ha
    obtain ⟨hz, hn, hdep, L, β, rfl, hL1, hL2, hL3, hS⟩ := hR
    obtain ⟨G, rfl, hf⟩ := ha
    have hall := all_listed (P := P) (backB_spec hb) hz hr
    have hia : ∀ e ∈ es, listed.getD e.ia false = true := fun e he => by
      obtain ⟨ty, pos, af, h1⟩ := ok.a e he
      exact hall _ (Array.getElem?_eq_some_iff.1 h1).1
    have his : ∀ e ∈ es, listed.getD e.is false = true := fun e he => by
      obtain ⟨ty, pos, af, h1, _⟩ := ok.s e he
      exact hall _ (Array.getElem?_eq_some_iff.1 h1).1
    have ht : tailE β (fun i => listed.getD i false) es = es.map (fun e => ⟨β e.ia, e.vs, e.t⟩) := by
      unfold tailE
      rw [List.filter_eq_self.2 (fun e he => hia e he)]
      exact List.map_congr_left (fun e he => by have h1 := his e he; simp only [entOf, h1, cond_true])
    have hg : putF L G = foldE β es G := by
      funext t
      by_cases hx : ∃ e ∈ es, e.d = t
      · obtain ⟨e, he, rfl⟩ := hx
        rw [putF_mem L G _ _ (hL2 e he (hia e he)) hL3, foldE_mem β es G e he ok.dif]
      · rw [putF_not L G t (fun p hp hc => by obtain ⟨f, hf, _, rfl⟩ := hL1 p hp; exact hx ⟨f, hf, hc.symm⟩), foldE_not β es G t (fun e he hc => hx ⟨e, he, hc.symm⟩)]
    rw [putL_fr, hg]
    exact hf β w (by rw [← ht]; exact hS)
  · intro listed a0 a w i o v K hi ho hR hy hK
    rcases hy with ⟨e, he, hei, hv⟩ | ⟨e, he, hei, hv, hx⟩ | ⟨hne, hq⟩
    · exact step_alloc ok hi ho hR he hei hv hK
    · exact step_store ok hdn hi ho hR he hei hv hx hK
    · exact step_quiet ok ho hR hne hq hK
  · refine ⟨by simp, by simp [fr], fun e _ h => ?_, [], fun _ => 0, rfl, (fun p hp => by cases hp), fun e _ h => ?_, .nil, tail_iff.2 ⟨hw.drew, fun e _ h => ?_, fun x _ e _ h => ?_, ?_⟩⟩
    · simp [Array.getD] at h
    · simp [Array.getD] at h
    · simp [Array.getD] at h
    · simp [Array.getD] at h
    · exact List.Pairwise.imp_of_mem (fun {e f} _ _ _ h => by simp [Array.getD] at h) ok.dif

/-! ### steps of the walk -/
def WT (P : Program) (ops : Array Oper) (w0 : World) (H : List Ent) (es : List Eff) (n : Nat) (K : (Nat → Value) → Prop) (k : Nat) (l : List Oper) (F : Nat → Value) : Prop :=
  wT ops (YE P ops w0 H es) (fun a' => ∃ G, a' = fr n G ∧ K G) k l (fr n F)
theorem wT_mono {ops : Array Oper} {Y : Nat → Oper → Value → Act → Prop} {Q Q' : Act → Prop} (h : ∀ a, Q a → Q' a) : ∀ (l : List Oper) (k : Nat) (a : Act), wT ops Y Q k l a → wT ops Y Q' k l a
  | [], _, _, hq => h _ hq
  | _ :: l, k, _, ⟨v, hy, hr⟩ => ⟨v, hy, wT_mono h l (k + 1) _ hr⟩
def freeB (es : List Eff) (k : Nat) : Bool := es.all fun e => !Nat.beq e.ia k && !Nat.beq e.is k
theorem freeB_spec {es : List Eff} {k : Nat} (h : freeB es k = true) : ∀ e ∈ es, e.ia ≠ k ∧ e.is ≠ k := by
  intro e he
  have h1 := List.all_eq_true.1 h e he
  simp only [Bool.and_eq_true, Bool.not_eq_true'] at h1
  exact ⟨(fun hc => by rw [hc, Nat.beq_refl] at h1; cases h1.1), (fun hc => by rw [hc, Nat.beq_refl] at h1; cases h1.2)⟩
section
variable {P : Program} {ops : Array Oper} {w0 : World} {H : List Ent} {es : List Eff} {n : Nat} {K : (Nat → Value) → Prop} {F : Nat → Value} {k : Nat} {rest : List Oper} {d : Nat} {op : Op} {ty : TypeId} {pos : String} {af : Array Edge} {v : Value}
theorem tnil (h : K F) : WT P ops w0 H es n K k [] F := ⟨F, rfl, h⟩
theorem t1 (hk : freeB es k = true) (hq : ∀ T, Qu P (Sat w0 (H ++ T)) (ev n F) ⟨some d, op, ty, pos, af, none⟩ v) (h : WT P ops w0 H es n K (k + 1) rest (upd F d v)) :
    WT P ops w0 H es n K k (⟨some d, op, ty, pos, af, none⟩ :: rest) F :=
  ⟨v, .inr (.inr ⟨freeB_spec hk, .inl ⟨rfl, fun T w hw => by unfold Oper.quietAt; rw [fr_eval]; exact hq T w hw⟩⟩), by rw [fr_put]; exact h⟩
theorem t1g {j dj : Nat} {want g : Bool} (hk : freeB es k = true) (hj : (ops[j]?).bind (·.dst) = some dj) (hg : GW (ev n F (.tmp dj)) want g)
    (hq : g = true → ∀ T, Qu P (Sat w0 (H ++ T)) (ev n F) ⟨some d, op, ty, pos, af, some (j, want)⟩ v) (h : WT P ops w0 H es n K (k + 1) rest (upd F d (gv g v))) :
    WT P ops w0 H es n K k (⟨some d, op, ty, pos, af, some (j, want)⟩ :: rest) F := by
  cases g with
  | true =>
    rw [gvt rfl] at h
    exact ⟨v, .inr (.inr ⟨freeB_spec hk, .inl ⟨wanted_fr rfl hj hg, fun T w hw => by unfold Oper.quietAt; rw [fr_eval]; exact hq rfl T w hw⟩⟩), by rw [fr_put]; exact h⟩
  | false =>
    rw [gv_false] at h
    exact ⟨undef, .inr (.inr ⟨freeB_spec hk, .inr ⟨wanted_fr rfl hj hg, rfl⟩⟩), by rw [fr_put]; exact h⟩
theorem te {t : TypeId} (i : Nat) {e : Eff} (he : es[i]? = some e) (hk : e.ia = k) (h : WT P ops w0 H es n K (k + 1) rest (upd F d undef)) :
    WT P ops w0 H es n K k (⟨some d, .alloc t, ty, pos, af, none⟩ :: rest) F :=
  ⟨undef, .inl ⟨e, List.mem_of_getElem? he, hk, rfl⟩, by rw [fr_put]; exact h⟩
theorem ts {t : TypeId} {p x : Operand} (i : Nat) {e : Eff} (he : es[i]? = some e) (hk : e.is = k) (hx : ev n F e.x = .agg e.vs.toArray) (h : WT P ops w0 H es n K (k + 1) rest F) :
    WT P ops w0 H es n K k (⟨none, .store t p x, ty, pos, af, none⟩ :: rest) F :=
  ⟨undef, .inr (.inl ⟨e, List.mem_of_getElem? he, hk, rfl, by rw [fr_eval]; exact hx⟩), by rw [fr_put_none]; exact h⟩
end

def isTmp (x : Operand) (d : Nat) : Bool := match x with
  | .tmp t => Nat.beq t d
  | _ => false
def sepB (ops : Array Oper) (es : List Eff) : Bool := (List.range ops.size).all fun i => !freeB es i || (match ops[i]? with
  | some o => es.all fun e => !(o.looksAt ops).contains e.d && !(match o.dst with | some d => Nat.beq d e.d | none => false)
  | none => true)
theorem sepB_spec {ops : Array Oper} {es : List Eff} (h : sepB ops es = true) (i : Nat) (o : Oper) (ho : ops[i]? = some o) (hne : ∀ e ∈ es, e.ia ≠ i ∧ e.is ≠ i) : ∀ e ∈ es, e.d ∉ o.looksAt ops ∧ o.dst ≠ some e.d := by
  have hf : freeB es i = true := List.all_eq_true.2 fun e he => by
    obtain ⟨h1, h2⟩ := hne e he
    cases hb : Nat.beq e.ia i with
    | true => exact absurd (Nat.eq_of_beq_eq_true hb) h1
    | false =>
      cases hc : Nat.beq e.is i with
      | true => exact absurd (Nat.eq_of_beq_eq_true hc) h2
      | false => rfl
  have h1 := List.all_eq_true.1 h i (List.mem_range.2 (Array.getElem?_eq_some_iff.1 ho).1)
  simp only [hf, Bool.not_true, Bool.false_or, ho] at h1
  intro e he
  have h2 := List.all_eq_true.1 h1 e he
  simp only [Bool.and_eq_true, Bool.not_eq_true'] at h2
  refine ⟨fun hc => ?_, fun hc => ?_⟩
  · have := h2.1; rw [List.contains_eq_mem] at this; simp [hc] at this
  · have := h2.2; rw [hc] at this; simp [Nat.beq_refl] at this
def difB : List Eff → Bool
  | [] => true
  | e :: es => (es.all fun f => !Nat.beq e.ia f.ia && !Nat.beq e.d f.d && !Nat.beq e.is f.is) && difB es
theorem nb {a b : Nat} (h : Nat.beq a b = false) : a ≠ b := fun hc => by rw [hc, Nat.beq_refl] at h; cases h
theorem difB_spec : ∀ {es : List Eff}, difB es = true → es.Pairwise (fun e f => e.ia ≠ f.ia ∧ e.d ≠ f.d ∧ e.is ≠ f.is)
  | [], _ => .nil
  | e :: es, h => by
    unfold difB at h
    obtain ⟨h1, h2⟩ := Bool.and_eq_true_iff.1 h
    refine List.pairwise_cons.2 ⟨fun f hf => ?_, difB_spec h2⟩
    have h3 := List.all_eq_true.1 h1 f hf
    simp only [Bool.and_eq_true, Bool.not_eq_true'] at h3
    exact ⟨nb h3.1.1, nb h3.1.2, nb h3.2⟩
/-- one effect, as the region has it -/
structure EffAt (P : Program) (ops : Array Oper) (e : Eff) : Prop where
  a : ∃ ty pos af, ops[e.ia]? = some ⟨some e.d, .alloc e.t, ty, pos, af, none⟩
  s : ∃ ty pos af, ops[e.is]? = some ⟨none, .store e.t (.tmp e.d) e.x, ty, pos, af, none⟩ ∧ ∃ g ∈ af, g.on = e.ia ∧ Region.binds .any g = true
  z : ∃ z, (∀ w, (zeroValue e.t).run P w = .ok z w) ∧ z.cells.toList = e.zs
  k : ∀ w, (Go.sizeOf e.t).run P w = .ok e.vs.length w
  len : e.zs.length = e.vs.length
  one : ∀ v ∈ e.vs, v.oneCell' = true
theorem effOk {P : Program} {ops : Array Oper} {es : List Eff} (h : ∀ e ∈ es, EffAt P ops e) (hd : difB es = true) (hs : sepB ops es = true)
    (hx : (es.all fun e => es.all fun f => !isTmp e.x f.d && !Nat.beq e.ia f.is) = true) (hsel : Region.noSelect ops = true) : EffOk P ops es := by
  refine ⟨fun e he => (h e he).a, fun e he => (h e he).s, fun e he => (h e he).z, fun e he => (h e he).k, fun e he => (h e he).len, fun e he => (h e he).one, difB_spec hd, fun e he f hf => ?_,
    sepB_spec hs, fun e he f hf hc => ?_, hsel⟩
  · have h1 := List.all_eq_true.1 (List.all_eq_true.1 hx e he) f hf
    simp only [Bool.and_eq_true, Bool.not_eq_true'] at h1
    exact nb h1.2
  · have h1 := List.all_eq_true.1 (List.all_eq_true.1 hx e he) f hf
    simp only [Bool.and_eq_true, Bool.not_eq_true'] at h1
    rw [hc] at h1
    simp [isTmp, Nat.beq_refl] at h1

theorem af_any {af : Array Edge} {k : Nat} (h : (af.any fun g => Nat.beq g.on k && Region.binds .any g) = true) : ∃ g ∈ af, g.on = k ∧ Region.binds .any g = true := by
  rw [Array.any_eq_true'] at h
  obtain ⟨g, hg, h1⟩ := h
  obtain ⟨h2, h3⟩ := Bool.and_eq_true_iff.1 h1
  exact ⟨g, hg, Nat.eq_of_beq_eq_true h2, h3⟩
theorem cregE1 {P : Program} {Q : Exit → Act → World → Prop} {w0 : World} {H : List Ent} {n : Nat} {F : Nat → Value} {id : Nat} {l : List Oper} (e1 : Eff) (hm : P.follows .mixedOrders = true) (hB : Region.lexB .any l.toArray = true)
    (hb : backB l.toArray = true) (h1 : EffAt P l.toArray e1) (hd : difB [e1] = true) (hs : sepB l.toArray [e1] = true)
    (hx : ([e1].all fun e => [e1].all fun f => !isTmp e.x f.d && !Nat.beq e.ia f.is) = true) (hsel : Region.noSelect l.toArray = true) (hdn : Nat.blt e1.d n = true)
    (h : WT P l.toArray w0 H [e1] n (fun G => ∀ b1, NQ Q w0 (H ++ [⟨b1, e1.vs, e1.t⟩]) .normal n (upd G e1.d (.pointer (some ⟨b1, 0, none⟩)))) 0 l F) : WC P Q w0 H (.region id l.toArray true) n F :=
  cregE [e1] hm hB hb (effOk (fun e he => by rw [List.mem_singleton.1 he]; exact h1) hd hs hx hsel) (fun e he => by rw [List.mem_singleton.1 he]; exact Nat.le_of_ble_eq_true hdn) (wT_mono (fun a ⟨G, h1, h2⟩ => ⟨G, h1, fun β => h2 (β e1.ia)⟩) _ _ _ h)
theorem cregE2 {P : Program} {Q : Exit → Act → World → Prop} {w0 : World} {H : List Ent} {n : Nat} {F : Nat → Value} {id : Nat} {l : List Oper} (e1 e2 : Eff) (hm : P.follows .mixedOrders = true) (hB : Region.lexB .any l.toArray = true)
    (hb : backB l.toArray = true) (h1 : EffAt P l.toArray e1) (h2 : EffAt P l.toArray e2) (hd : difB [e1, e2] = true) (hs : sepB l.toArray [e1, e2] = true)
    (hx : ([e1, e2].all fun e => [e1, e2].all fun f => !isTmp e.x f.d && !Nat.beq e.ia f.is) = true) (hsel : Region.noSelect l.toArray = true) (hdn1 : Nat.blt e1.d n = true) (hdn2 : Nat.blt e2.d n = true)
    (h : WT P l.toArray w0 H [e1, e2] n (fun G => ∀ b1 b2, NQ Q w0 (H ++ [⟨b1, e1.vs, e1.t⟩, ⟨b2, e2.vs, e2.t⟩]) .normal n (upd (upd G e1.d (.pointer (some ⟨b1, 0, none⟩))) e2.d (.pointer (some ⟨b2, 0, none⟩)))) 0 l F) : WC P Q w0 H (.region id l.toArray true) n F :=
  cregE [e1, e2] hm hB hb (effOk (fun e he => by
      rcases List.mem_cons.1 he with he | he
      · rw [he]; exact h1
      · rw [List.mem_singleton.1 he]; exact h2) hd hs hx hsel) (fun e he => by
      rcases List.mem_cons.1 he with he | he
      · rw [he]; exact Nat.le_of_ble_eq_true hdn1
      · rw [List.mem_singleton.1 he]; exact Nat.le_of_ble_eq_true hdn2) (wT_mono (fun a ⟨G, h1, h2⟩ => ⟨G, h1, fun β => h2 (β e1.ia) (β e2.ia)⟩) _ _ _ h)

/-! ### one operation that comes last in every order -/
theorem wpAny_of_wE2 {P : Program} {ops : Array Oper} {md : Region.Mode} {Y : Nat → Oper → Value → Act → Prop} {Q : Act → Prop} {Q' : Exit → Act → World → Prop} (R : Array Bool → Act → Act → World → Prop)
    (hQ : ∀ listed a0 a w, Region.ready md ops listed = [] → R listed a0 a w → Q a0 → Q' .normal a w)
    (hS : ∀ listed a0 a w i o v (K : Act → World → Prop), i ∈ Region.ready md ops listed → ops[i]? = some o → R listed a0 a w → Y i o v a0 →
      (Region.ready md ops (listed.setIfInBounds i true) = [] → Q (a0.put o.dst v)) →
      (∀ a' w', R (listed.setIfInBounds i true) (a0.put o.dst v) a' w' → K a' w') → wpOp P ops Q' i K a w) :
    ∀ (fuel : Nat) (listed : Array Bool) (a0 a : Act) (w : World), R listed a0 a w → wE md ops Y Q fuel listed a0 → wpAny P md ops Q' fuel listed a w
  | 0, _, _, _, _, hR, h => ⟨h.1, hQ _ _ _ _ h.1 hR h.2⟩
  | fuel + 1, listed, a0, a, w, hR, h => by
    refine ⟨fun h0 => hQ _ _ _ _ h0 hR (h.1 h0), fun i hi => ?_⟩
    have h1 := h.2 i hi
    obtain ⟨_, o, ho, _⟩ := mem_ready.1 hi
    unfold oE at h1
    simp only [ho] at h1
    obtain ⟨v, hy, hK⟩ := h1
    refine hS listed a0 a w i o v _ hi ho hR hy (fun he => ?_) fun a' w' hR' => wpAny_of_wE2 R hQ hS fuel _ _ a' w' hR' hK
    cases fuel with
    | zero => exact hK.2
    | succ f => exact hK.1 he

def YL (P : Program) (ops : Array Oper) (C : World → Prop) (m : Nat) (i : Nat) (o : Oper) (v : Value) (a : Act) : Prop :=
  (i = m ∧ v = undef) ∨ (i ≠ m ∧ YieldsIn P ops C o v a)
theorem fitL {P : Program} {ops : Array Oper} {C : World → Prop} {m : Nat} (hsel : Region.noSelect ops = true) : Fit ops (YL P ops C m) := by
  intro i o v a d u hi hd
  have hs : ∀ cs b, o.op ≠ .select cs b := fun cs b => Region.noSelect_spec hsel i o cs b hi
  unfold YL YieldsIn Oper.quietAt
  rw [execOp_put o hs a d u hd, wanted_put o a d u hd]
theorem wT_of_quiet {P : Program} {ops : Array Oper} {C : World → Prop} {Q : Act → Prop} {m : Nat} {o : Oper} (hno : o.dst = none) : ∀ (l : List Oper) (k : Nat) (a : Act), k + l.length = m →
    wpQuiet P ops C Q l a → wT ops (YL P ops C m) Q k (l ++ [o]) a
  | [], k, a, hk, h => by
    refine ⟨undef, .inl ⟨by simpa using hk, rfl⟩, ?_⟩
    rw [hno]; exact h
  | x :: l, k, a, hk, h => by
    have hkm : k ≠ m := by simp at hk; omega
    have hk' : k + 1 + l.length = m := by simp at hk; omega
    unfold wpQuiet at h
    by_cases hw : Region.wanted x (yielded ops a.tmps) = true
    · rw [if_pos hw] at h
      obtain ⟨v, h1, h2⟩ := h
      exact ⟨v, .inr ⟨hkm, .inl ⟨hw, h1⟩⟩, wT_of_quiet hno l (k + 1) _ hk' h2⟩
    · rw [if_neg hw] at h
      exact ⟨undef, .inr ⟨hkm, .inr ⟨by simpa using hw, rfl⟩⟩, wT_of_quiet hno l (k + 1) _ hk' h⟩
def lastB (o : Oper) (m : Nat) : Bool := (List.range m).all fun j => o.after.any fun g => Nat.beq g.on j && Region.binds .any g
theorem cregS {P : Program} {Q : Exit → Act → World → Prop} {w0 : World} {H : List Ent} {n : Nat} {F : Nat → Value} {id : Nat} {L : List Oper} {o : Oper}
    (hm : P.follows .mixedOrders = true) (hL : L.getLast? = some o) (hno : o.dst = none)
    (hB : Region.lexB .any L.toArray = true) (hb : backB L.toArray = true) (hl : lastB o L.dropLast.length = true)
    (h : WQ P L.toArray w0 H (fun a' => ∀ w', Sat w0 H w' → wpList P L.toArray Q [o] a' w') L.dropLast n F) :
    WC P Q w0 H (.region id L.toArray true) n F := by
  intro w hw
  obtain ⟨l, rfl⟩ := List.getLast?_eq_some_iff.1 hL
  rw [List.dropLast_concat] at h hl
  refine wp_region_any hm ?_
  have ho0 : (l ++ [o]).toArray[l.length]? = some o := by simp
  have hsz : (l ++ [o]).toArray.size = l.length + 1 := by simp
  generalize hops : (l ++ [o]).toArray = ops at *
  have hlist : l ++ [o] = ops.toList := by rw [← hops]
  simp only [Region.lexB, Bool.and_eq_true] at hB
  have hT := wT_of_quiet (o := o) (m := l.length) hno l 0 (fr n F) (by simp) h
  have hE := wE_lex (md := .any) (fitL (P := P) (C := Sat w0 H) (m := l.length) hB.1) _ 0 (Array.replicate ops.size false) (fr n F) (by rw [hlist]; simp) (by rw [hlist]; simpa using hB.2) hT
  refine wpAny_of_wE2 (fun listed a0 a w => listed.size = ops.size ∧
    ((listed.getD l.length false = false ∧ a = a0 ∧ Sat w0 H w) ∨ (listed.getD l.length false = true ∧ Region.ready .any ops listed = [] ∧ Q .normal a w))) ?_ ?_ ops.size _ (fr n F) _ _ ?_ (by rw [hlist] at hE; simpa using hE)
  · rintro listed a0 a w hr ⟨hz, ⟨h1, _⟩ | ⟨_, _, h1⟩⟩ _
    · have := all_listed (P := P) (backB_spec hb) hz hr l.length (by omega)
      rw [h1] at this; cases this
    · exact h1
  · rintro listed a0 a w i oi v K hi ho ⟨hz, hR⟩ hy hend hK
    rcases hR with ⟨hR1, rfl, hR3⟩ | ⟨_, hR2, _⟩
    · rcases hy with ⟨rfl, rfl⟩ | ⟨him, hy⟩
      · rw [ho0] at ho
        cases ho
        have hemp : Region.ready .any ops (listed.setIfInBounds l.length true) = [] := by
          refine List.eq_nil_iff_forall_not_mem.2 fun j hj => ?_
          obtain ⟨hj1, o2, ho2, _⟩ := mem_ready.1 hj
          have hjl : j < l.length + 1 := by rw [← hsz]; exact (Array.getElem?_eq_some_iff.1 ho2).1
          rcases Nat.lt_or_ge j l.length with hlt | hge
          · obtain ⟨_, o3, ho3, hall⟩ := mem_ready.1 hi
            rw [ho0] at ho3
            cases ho3
            have h2 := List.all_eq_true.1 hl j (List.mem_range.2 hlt)
            obtain ⟨g, hg1, hg2, hg3⟩ := af_any h2
            have h3 := hall g hg1 hg3
            rw [hg2] at h3
            have h4 := getD_set_true (i := l.length) h3
            have hjs : j < (listed.setIfInBounds l.length true).size := by simp [hz, hsz]; omega
            simp only [Array.getD, hjs, dif_pos] at h4 hj1
            rw [h4] at hj1; cases hj1
          · have hje : j = l.length := by omega
            subst hje
            have h4 := getD_set_self (listed := listed) (i := l.length) (by omega)
            have hjs : l.length < (listed.setIfInBounds l.length true).size := by simp [hz, hsz]
            simp only [Array.getD, hjs, dif_pos] at h4 hj1
            rw [h4] at hj1; cases hj1
        have hfin := hend hemp
        rw [hno] at hfin
        have hfin2 : wpList P ops Q [o] a w := hfin w hR3
        have hgo : ∀ a' w', Q .normal a' w' → K a' w' := fun a' w' hq => hK _ _ ⟨by simpa using hz, .inr ⟨getD_set_self (by omega), hemp, hq⟩⟩
        unfold wpOp
        simp only [ho0]
        unfold wpList at hfin2
        split
        · rename_i hw1
          rw [if_pos hw1] at hfin2
          exact hfin2.imp (Oper.wp_mono hgo) (fun z => z)
        · rename_i hw1
          rw [if_neg hw1] at hfin2
          exact hgo _ _ hfin2
      · have hset : (listed.setIfInBounds i true).getD l.length false = false := by rw [getD_set_ne false him]; exact hR1
        refine wpOp_of_qOp (C := Sat w0 H) (K := fun a' => a' = a.put oi.dst v) hR3 (fun a' w' hw' ha => ?_) (hy.qOp ho rfl)
        subst ha
        exact hK _ _ ⟨by simpa using hz, .inl ⟨hset, rfl, hw'⟩⟩
    · rw [hR2] at hi; cases hi
  · refine ⟨by simp, .inl ⟨by simp [Array.getD], rfl, hw.drew⟩⟩
theorem qlast {P : Program} {ops : Array Oper} {Q : Exit → Act → World → Prop} {w0 : World} {H : List Ent} {n : Nat} {F : Nat → Value} {o : Oper} (h : WL P ops Q w0 H [o] n F) :
    WQ P ops w0 H (fun a' => ∀ w', Sat w0 H w' → wpList P ops Q [o] a' w') [] n F := h
end Jal
/- a region that draws its order, whose last operations come last in every order: the first ones are quiet, the last ones are walked one by one -/
namespace Jal
open Go Go.RowKit
section
variable {P : Program} {ops : Array Oper} {md : Region.Mode} {Y : Nat → Oper → Value → Act → Prop}
def wEL (md : Region.Mode) (ops : Array Oper) (Y : Nat → Oper → Value → Act → Prop) (n : Nat) (L : Array Bool → Act → Prop) : Nat → Array Bool → Act → Prop
  | 0, listed, a => L listed a
  | f + 1, listed, a =>
    Region.ready md ops listed ≠ [] ∧ ∀ i ∈ Region.ready md ops listed, i < n ∧ oE ops Y i (wEL md ops Y n L f (listed.setIfInBounds i true)) a
theorem oE_of {i : Nat} {oi : Oper} {v : Value} {a : Act} {K : Act → Prop} (hi : ops[i]? = some oi) (hy : Y i oi v a) (h : K (a.put oi.dst v)) : oE ops Y i K a := by
  unfold oE; simp only [hi]; exact ⟨v, hy, h⟩
theorem wEL_first (hF : Fit ops Y) {n i : Nat} {oi : Oper} {v : Value} {L : Array Bool → Act → Prop} (hi : ops[i]? = some oi)
    (hs : Region.sinkB md ops n = true) (hc : Region.chainB md ops n = true) (hn : n < ops.size) (hin : i < n)
    (hdone : ∀ listed a, L listed a → ∀ j ∈ Region.ready md ops listed, n ≤ j) :
    ∀ (f : Nat) (listed : Array Bool) (a : Act), HeadInv md ops n listed →
      (∀ j oj, ops[j]? = some oj → j ≠ i → listed.getD j true = false → (∀ e ∈ oj.after, Region.binds md e = true → e.on ≠ i) → oi.apart ops oj = true) →
      i ∈ Region.ready md ops listed → Y i oi v a →
      wEL md ops Y n L f (listed.setIfInBounds i true) (a.put oi.dst v) → wEL md ops Y n L (f + 1) listed a := by
  intro f
  induction f with
  | zero =>
    intro listed a inv _ hr hy H
    have hun := (mem_ready.1 hr).1
    refine ⟨fun h => (by rw [h] at hr; cases hr), fun j hj => ?_⟩
    have hjn : j < n := by
      rcases Nat.lt_or_ge j n with h | h
      · exact h
      · exact absurd hj (tail_waits hs hc hn inv _ i rfl hin hun j h)
    refine ⟨hjn, ?_⟩
    by_cases hji : j = i
    · subst hji; exact oE_of hi hy H
    · have := hdone _ _ H j (ready_mono hj hji)
      omega
  | succ f ih =>
    intro listed a inv hfree hr hy H
    have hun := (mem_ready.1 hr).1
    refine ⟨fun h => (by rw [h] at hr; cases hr), fun j hj => ?_⟩
    have hjn : j < n := by
      rcases Nat.lt_or_ge j n with h | h
      · exact h
      · exact absurd hj (tail_waits hs hc hn inv _ i rfl hin hun j h)
    refine ⟨hjn, ?_⟩
    by_cases hji : j = i
    · subst hji; exact oE_of hi hy H
    · have h1 := (H.2 j (ready_mono hj hji)).2
      obtain ⟨hjun, oj, hoj, hall⟩ := mem_ready.1 hj
      have hnot : ∀ e ∈ oj.after, Region.binds md e = true → e.on ≠ i := fun e he hb heq => by
        have h1 := hall e he hb
        rw [heq, getD_both hun] at h1
        cases h1
      have h2 := oE_put hF hi hoj (hfree j oj hoj hji hjun hnot) hy h1
      have hfree' : ∀ k ok, ops[k]? = some ok → k ≠ i → (listed.setIfInBounds j true).getD k true = false →
          (∀ e ∈ ok.after, Region.binds md e = true → e.on ≠ i) → oi.apart ops ok = true := fun k ok hk hki hun hno => by
        refine hfree k ok hk hki ?_ hno
        by_cases hjk : j = k
        · subst hjk; exact hjun
        · rw [getD_set_ne true hjk] at hun; exact hun
      refine oE_mono (fun a' h3 => ih (listed.setIfInBounds j true) a' (inv.set hj hjn) hfree' (ready_mono hr (Ne.symm hji)) h3.1 ?_) h2
      rw [Array.setIfInBounds_comm _ _ hji]
      exact h3.2
theorem wEL_lex (hF : Fit ops Y) {n g : Nat} {Lq : Act → Prop} (hs : Region.sinkB md ops n = true) (hc : Region.chainB md ops n = true) (hn : n < ops.size) :
    ∀ (l : List Oper) (k : Nat) (listed : Array Bool) (a : Act), (∀ j, j < l.length → l[j]? = ops[k + j]?) → k + l.length = n → HeadInv md ops n listed →
    Region.lexHead md ops g l.length k listed = true → wT ops Y Lq k l a →
    wEL md ops Y n (fun listed' a' => Region.seqB md ops g n listed' = true ∧ Lq a') l.length listed a
  | [], k, listed, a, _, hk, _, hB, h => by
    have : k = n := by simpa using hk
    subst this
    exact ⟨by simpa [Region.lexHead] using hB, h⟩
  | o :: l, k, listed, a, hl, hk, inv, hB, h => by
    have h0 : ops[k]? = some o := by simpa using (hl 0 (by simp)).symm
    simp only [List.length_cons, Region.lexHead, Bool.and_eq_true] at hB
    obtain ⟨⟨hr, hf⟩, hB'⟩ := hB
    have hkn : k < n := by simp only [List.length_cons] at hk; omega
    have hr' : k ∈ Region.ready md ops listed := by simpa using hr
    obtain ⟨v, hy, hK⟩ := h
    exact wEL_first hF h0 hs hc hn hkn (fun listed' a' hL => seqB_ready hL.1) l.length listed a inv (Region.free_spec h0 hf) hr' hy
      (wEL_lex hF hs hc hn l (k + 1) _ _ (fun j hj => by have := hl (j + 1) (by simp; omega); simpa [Nat.add_assoc, Nat.add_comm 1 j] using this) (by simp only [List.length_cons] at hk; omega) (inv.set hr' hkn) hB' hK)
end
def YQ (P : Program) (ops : Array Oper) (C : World → Prop) (_ : Nat) (o : Oper) (v : Value) (a : Act) : Prop := YieldsIn P ops C o v a
theorem fitQ {P : Program} {ops : Array Oper} {C : World → Prop} (hsel : Region.noSelect ops = true) : Fit ops (YQ P ops C) := by
  intro i o v a d u hi hd
  have hs : ∀ cs b, o.op ≠ .select cs b := fun cs b => Region.noSelect_spec hsel i o cs b hi
  unfold YQ YieldsIn Oper.quietAt
  rw [execOp_put o hs a d u hd, wanted_put o a d u hd]
theorem wTQ_of_quiet {P : Program} {ops : Array Oper} {C : World → Prop} {Q : Act → Prop} : ∀ (l : List Oper) (k : Nat) (a : Act), wpQuiet P ops C Q l a → wT ops (YQ P ops C) Q k l a
  | [], _, _, h => h
  | x :: l, k, a, h => by
    unfold wpQuiet at h
    by_cases hw : Region.wanted x (yielded ops a.tmps) = true
    · rw [if_pos hw] at h
      obtain ⟨v, h1, h2⟩ := h
      exact ⟨v, .inl ⟨hw, h1⟩, wTQ_of_quiet l (k + 1) _ h2⟩
    · rw [if_neg hw] at h
      exact ⟨undef, .inr ⟨by simpa using hw, rfl⟩, wTQ_of_quiet l (k + 1) _ h⟩
theorem wpAny_of_wEL {P : Program} {ops : Array Oper} {md : Region.Mode} {C : World → Prop} {Q' : Exit → Act → World → Prop} {n g : Nat} {L : Array Bool → Act → Prop}
    (hL : ∀ listed a w, C w → L listed a → wpAny P md ops Q' g listed a w) :
    ∀ (f : Nat) (listed : Array Bool) (a : Act) (w : World), C w → wEL md ops (YQ P ops C) n L f listed a → wpAny P md ops Q' (f + g) listed a w
  | 0, listed, a, w, hw, h => by rw [Nat.zero_add]; exact hL _ _ _ hw h
  | f + 1, listed, a, w, hw, h => by
    rw [show f + 1 + g = (f + g) + 1 by omega]
    refine ⟨fun h0 => absurd h0 h.1, fun i hi => ?_⟩
    have h1 := (h.2 i hi).2
    obtain ⟨_, o, ho, _⟩ := mem_ready.1 hi
    unfold oE at h1
    simp only [ho] at h1
    obtain ⟨v, hy, hK⟩ := h1
    refine wpOp_of_qOp (C := C) (K := fun a' => a' = a.put o.dst v) hw (fun a' w' hw' ha => ?_) (YieldsIn.qOp ho hy rfl)
    subst ha
    exact wpAny_of_wEL hL f _ _ _ hw' hK
theorem cregT {P : Program} {Q : Exit → Act → World → Prop} {w0 : World} {H : List Ent} {n : Nat} {F : Nat → Value} {id : Nat} {l : List Oper} (k : Nat)
    (hm : P.follows .mixedOrders = true) (hB : Region.lexTailB .any l.toArray k = true)
    (h : WQ P l.toArray w0 H (fun a' => ∀ w', Sat w0 H w' → wpList P l.toArray Q (l.drop k) a' w') (l.take k) n F) :
    WC P Q w0 H (.region id l.toArray true) n F := by
  intro w hw
  simp only [Region.lexTailB, Bool.and_eq_true, decide_eq_true_eq] at hB
  obtain ⟨⟨⟨⟨hsel, hn⟩, hs⟩, hc⟩, hlex⟩ := hB
  have hn' : k < l.length := by simpa using hn
  have htl : (l.take k).length = k := by simp; omega
  have hdl : (l.drop k).length = l.toArray.size - k := by simp
  have inv0 : HeadInv .any l.toArray k (Array.replicate l.toArray.size false) :=
    ⟨by simp, fun j oj _ hl => (by rw [getD_replicate_false] at hl; cases hl), fun t _ ht => getD_in (by simpa using ht) (getD_replicate_false _ _)⟩
  have H1 := wEL_lex (md := .any) (g := l.toArray.size - k) (fitQ (P := P) (C := Sat w0 H) hsel) hs hc hn (l.take k) 0 _ (fr n F) (fun j hj => by
    have hj' : j < k := by rw [htl] at hj; exact hj
    simp [hj']) (by simpa using htl) inv0 (by rw [htl]; exact hlex) (wTQ_of_quiet _ 0 _ h)
  refine wp_region_any hm ?_
  have := wpAny_of_wEL (Q' := Q) (g := l.toArray.size - k) (fun listed a' w' hw' hL => by
    have := wpAny_of_seq (md := .any) (Q' := Q) (l.drop k) k listed a' w' (fun j => by simp [List.getElem?_drop]) (by rw [hdl]; exact hL.1) (hL.2 w' hw')
    rwa [hdl] at this) _ _ _ _ hw.drew H1
  rw [htl, show k + (l.toArray.size - k) = l.toArray.size by omega] at this
  exact this
theorem qtail {P : Program} {ops : Array Oper} {Q : Exit → Act → World → Prop} {w0 : World} {H : List Ent} {n : Nat} {F : Nat → Value} {tl : List Oper} (h : WL P ops Q w0 H tl n F) :
    WQ P ops w0 H (fun a' => ∀ w', Sat w0 H w' → wpList P ops Q tl a' w') [] n F := h
end Jal
/- a region that draws its order: what only reads is taken first; what is left comes up one by one -/
namespace Jal
open Go Go.RowKit
/-- some of our blocks hold whatever it may be -/
def SX {X : Type} (w0 : World) (Hx : X → List Ent) (w : World) : Prop := ∃ x, Sat w0 (Hx x) w
def WH (P : Program) (ops : Array Oper) (Q : Exit → Act → World → Prop) (S : World → Prop) (w0 : World) (H : List Ent) (fuel : Nat) (listed : Array Bool) (n : Nat) (F : Nat → Value) : Prop :=
  ∀ w, Sat w0 H w → wpAnyH P .any ops Q S fuel listed (fr n F) w
section
variable {P : Program} {ops : Array Oper} {Q : Exit → Act → World → Prop} {w0 : World} {H : List Ent} {n : Nat} {F : Nat → Value} {X : Type} {Hx : X → List Ent} {fuel : Nat} {listed : Array Bool}
theorem cregH {id : Nat} {l : List Oper} (Hx : X → List Ent) (m : Nat) (hm : P.follows .mixedOrders = true) (hz : l.length = m)
    (h : WH P l.toArray Q (SX w0 Hx) w0 H m (Array.replicate m false) n F) : WC P Q w0 H (.region id l.toArray true) n F := fun w hw => by
  subst hz
  refine wp_region_held (S := SX w0 Hx) hm ?_
  have := h w.drew hw.drew
  simpa using this
theorem pure_of_qu {C : World → Prop} {ρ : Operand → Value} {o : Oper} {v : Value} (hX : (∃ E : Sem Value, execOp ρ o = (do let u ← E; pure (Next.value u))) ∨ ∃ u, execOp ρ o = pure (Next.value u)) (hq : Qu P C ρ o v) (w : World) (hw : C w) : (execOp ρ o).run P w = .ok (.value v) w := by
  have h := hq w hw
  rcases hX with ⟨E, hE⟩ | ⟨u, hE⟩
  rotate_left
  · rw [hE] at h ⊢
    obtain ⟨h1, _⟩ : u = v ∧ w = w := ⟨h.2, rfl⟩
    subst h1; rfl
  rw [hE, Sem.run_bind] at h ⊢
  cases hr : E.run P w with
  | ok u w' =>
    rw [hr] at h
    simp only [Result.andThen_ok, Sem.run_pure] at h ⊢
    obtain ⟨h1, h2⟩ := h
    subst h1; subst h2; rfl
  | halt x w' =>
    rw [hr] at h
    exact absurd h (by simp [Result.andThen, Oper.quietUpon])
theorem hq1 (i : Nat) {d : Nat} {op : Op} {ty : TypeId} {pos : String} {af : Array Edge} {v : Value} (hi : ops[i]? = some ⟨some d, op, ty, pos, af, none⟩) (hs : Region.noSelect ops = true) (hf : Region.free .any ops listed i = true)
    (hr : (Region.ready .any ops listed).contains i = true) (hQ : ∀ c a w, Q (.panic c) (a.put (some d) v) w → Q (.panic c) a w)
    (hX : (∃ E : Sem Value, execOp (ev n F) ⟨some d, op, ty, pos, af, none⟩ = (do let u ← E; pure (Next.value u))) ∨ ∃ u, execOp (ev n F) ⟨some d, op, ty, pos, af, none⟩ = pure (Next.value u)) (hS : ∀ w, Sat w0 H w → SX w0 Hx w)
    (hq : ∀ x, Qu P (Sat w0 (Hx x)) (ev n F) ⟨some d, op, ty, pos, af, none⟩ v) (h : WH P ops Q (SX w0 Hx) w0 H fuel (listed.setIfInBounds i true) n (upd F d v)) :
    WH P ops Q (SX w0 Hx) w0 H (fuel + 1) listed n F := fun w hw =>
  wpAnyH_take hi hs hf hr hQ (.inl ⟨rfl, fun w ⟨x, hx⟩ => by rw [fr_eval]; exact pure_of_qu hX (hq x) w hx⟩) (hS w hw) (by rw [fr_put]; exact h w hw)
def QH (P : Program) (ops : Array Oper) (Q : Exit → Act → World → Prop) (S : World → Prop) (fuel : Nat) (listed : Array Bool) (e : Exit) (a : Act) (w : World) : Prop :=
  match e with
  | .normal => S w ∧ wpAnyH P .any ops Q S fuel listed a w
  | e => Q e a w
theorem wp_other {o : Oper} {a : Act} {w : World} {K : Act → World → Prop} {Q1 Q2 : Exit → Act → World → Prop} (hp : ∀ c a w, Q1 (.panic c) a w → Q2 (.panic c) a w) (hl : LetsOut Q1 → LetsOut Q2)
    (h : o.wp P a w K Q1) : o.wp P a w K Q2 := by
  unfold Oper.wp at *
  generalize (execOp a.eval o).run P w = r at *
  cases r with
  | ok n w' =>
    cases n <;> simp only [Oper.upon] at h ⊢ <;> try exact h
    refine Calls.mono h fun e w'' he => ?_
    cases e with
    | returned v => exact he
    | panicked c => exact hp _ _ _ he
    | outgrown => exact hl he
  | halt x w' =>
    cases x <;> simp only [Oper.upon] at h ⊢
    exact hp _ _ _ h
theorem he (k : Nat) {o : Oper} {S : World → Prop} (hr : Region.ready .any ops listed = [k]) (ho : ops[k]? = some o)
    (h : WL P ops (QH P ops Q S fuel (listed.setIfInBounds k true)) w0 H [o] n F) : WH P ops Q S w0 H (fuel + 1) listed n F := fun w hw => by
  refine wpAnyH_all (rs := [k]) hr (by simp) (fun i hi => ?_)
  obtain rfl := List.mem_singleton.1 hi
  have h1 := h w hw
  unfold wpOp
  simp only [ho]
  unfold wpList at h1
  split at h1
  · rename_i hw1
    rw [if_pos hw1]
    refine h1.imp (fun h2 => ?_) (fun h2 => h2)
    exact wp_other (Q1 := QH P ops Q S fuel (listed.setIfInBounds i true)) (fun _ _ _ h => h) (fun h => h) h2
  · rename_i hw1
    rw [if_neg hw1]
    exact h1
theorem hem (rs : List Nat) {S : World → Prop} (hr : Region.ready .any ops listed = rs) (hne : rs ≠ []) (h : ∀ k ∈ rs, ∃ o, ops[k]? = some o ∧ WL P ops (QH P ops Q S fuel (listed.setIfInBounds k true)) w0 H [o] n F) :
    WH P ops Q S w0 H (fuel + 1) listed n F := fun w hw => by
  refine wpAnyH_all hr hne (fun i hi => ?_)
  obtain ⟨o, ho, hk⟩ := h i hi
  have h1 := hk w hw
  unfold wpOp
  simp only [ho]
  unfold wpList at h1
  split at h1
  · rename_i hw1
    rw [if_pos hw1]
    refine h1.imp (fun h2 => ?_) (fun h2 => h2)
    exact wp_other (Q1 := QH P ops Q S fuel (listed.setIfInBounds i true)) (fun _ _ _ h => h) (fun h => h) h2
  · rename_i hw1
    rw [if_neg hw1]
    exact h1
theorem hem2 (i j : Nat) {S : World → Prop} {o1 o2 : Oper} (hr : Region.ready .any ops listed = [i, j]) (h1 : ops[i]? = some o1) (h2 : ops[j]? = some o2)
    (k1 : WL P ops (QH P ops Q S fuel (listed.setIfInBounds i true)) w0 H [o1] n F) (k2 : WL P ops (QH P ops Q S fuel (listed.setIfInBounds j true)) w0 H [o2] n F) : WH P ops Q S w0 H (fuel + 1) listed n F :=
  hem [i, j] hr (by simp) fun k hk => by
    rcases List.mem_cons.1 hk with rfl | hk
    · exact ⟨o1, h1, k1⟩
    · obtain rfl := List.mem_singleton.1 hk; exact ⟨o2, h2, k2⟩
theorem hem3 (i j l : Nat) {S : World → Prop} {o1 o2 o3 : Oper} (hr : Region.ready .any ops listed = [i, j, l]) (h1 : ops[i]? = some o1) (h2 : ops[j]? = some o2) (h3 : ops[l]? = some o3)
    (k1 : WL P ops (QH P ops Q S fuel (listed.setIfInBounds i true)) w0 H [o1] n F) (k2 : WL P ops (QH P ops Q S fuel (listed.setIfInBounds j true)) w0 H [o2] n F)
    (k3 : WL P ops (QH P ops Q S fuel (listed.setIfInBounds l true)) w0 H [o3] n F) : WH P ops Q S w0 H (fuel + 1) listed n F :=
  hem [i, j, l] hr (by simp) fun k hk => by
    rcases List.mem_cons.1 hk with rfl | hk
    · exact ⟨o1, h1, k1⟩
    · rcases List.mem_cons.1 hk with rfl | hk
      · exact ⟨o2, h2, k2⟩
      · obtain rfl := List.mem_singleton.1 hk; exact ⟨o3, h3, k3⟩
theorem hnil {S : World → Prop} (hS : ∀ w, Sat w0 H w → S w) (h : WH P ops Q S w0 H fuel listed n F) : WL P ops (QH P ops Q S fuel listed) w0 H [] n F := lnil fun w hw => ⟨hS w hw, h w hw⟩
theorem hend {S : World → Prop} (hr : Region.ready .any ops listed = []) (h : NQ Q w0 H .normal n F) : WH P ops Q S w0 H fuel listed n F := fun w hw => wpAnyH_done hr (h w hw) _
/-- the ways through a piece of code meet again -/
def CutQ (Q : Exit → Act → World → Prop) (w0 : World) (n : Nat) {Y : Type} (Hy : Y → List Ent) (sl : Y → List (Nat × Value)) (I : Y → Prop) (e : Exit) (a : Act) (w : World) : Prop :=
  match e with
  | .normal => ∃ y j, I y ∧ a = fr n (over j (sl y)) ∧ Sat w0 (Hy y) w
  | e => Q e a w
theorem ccut {Y : Type} {c : Code} (Hy : Y → List Ent) (sl : Y → List (Nat × Value)) (I : Y → Prop) (h1 : WC P (CutQ Q w0 n Hy sl I) w0 H c n F) (h2 : ∀ y j, I y → NQ Q w0 (Hy y) .normal n (over j (sl y))) : WC P Q w0 H c n F := fun w hw => by
  refine Code.wp_mono (fun e a w q => ?_) (h1 w hw)
  cases e <;> first | exact q | skip
  obtain ⟨y, j, hI, rfl, hs⟩ := q
  exact h2 y j hI w hs
theorem nCut {Y : Type} {Hy : Y → List Ent} {sl : Y → List (Nat × Value)} {I : Y → Prop} (y : Y) (hI : I y) (hF : AllEq F (sl y)) (hH : ∃ l : List Ent, l.Perm (Hy y) ∧ l.Sublist H) : NQ (CutQ Q w0 n Hy sl I) w0 H .normal n F := fun w hw => by
  obtain ⟨l, hp, hl⟩ := hH
  exact ⟨y, F, hI, by rw [over_same hF], (hw.sub hl).perm hp.symm⟩
end
end Jal
/- drawn regions and calls with maps -/
/- a region that draws its order, in which a map is changed -/
namespace Jal
open Go Go.RowKit
def SXB (Hx : List Ent) (w : World) : Prop := ∃ W, Sat W Hx w
section
variable {P : Program} {ops : Array Oper} {Q : Exit → Act → World → Prop} {w0 : World} {H : List Ent} {n : Nat} {F : Nat → Value} {Hx : List Ent} {fuel : Nat} {listed : Array Bool}
theorem cregHB {id : Nat} {l : List Oper} (Hx : List Ent) (m : Nat) (hm : P.follows .mixedOrders = true) (hz : l.length = m)
    (h : WH P l.toArray Q (SXB Hx) w0 H m (Array.replicate m false) n F) : WC P Q w0 H (.region id l.toArray true) n F := fun w hw => by
  subst hz
  refine wp_region_held (S := SXB Hx) hm ?_
  have := h w.drew hw.drew
  simpa using this
theorem hq1B (i : Nat) {d : Nat} {op : Op} {ty : TypeId} {pos : String} {af : Array Edge} {v : Value} (hi : ops[i]? = some ⟨some d, op, ty, pos, af, none⟩) (hs : Region.noSelect ops = true) (hf : Region.free .any ops listed i = true)
    (hr : (Region.ready .any ops listed).contains i = true) (hQ : ∀ c a w, Q (.panic c) (a.put (some d) v) w → Q (.panic c) a w)
    (hX : (∃ E : Sem Value, execOp (ev n F) ⟨some d, op, ty, pos, af, none⟩ = (do let u ← E; pure (Next.value u))) ∨ ∃ u, execOp (ev n F) ⟨some d, op, ty, pos, af, none⟩ = pure (Next.value u)) (hS : ∀ w, Sat w0 H w → SXB Hx w)
    (hq : ∀ W, Qu P (Sat W Hx) (ev n F) ⟨some d, op, ty, pos, af, none⟩ v) (h : WH P ops Q (SXB Hx) w0 H fuel (listed.setIfInBounds i true) n (upd F d v)) :
    WH P ops Q (SXB Hx) w0 H (fuel + 1) listed n F := fun w hw =>
  wpAnyH_take hi hs hf hr hQ (.inl ⟨rfl, fun w ⟨x, hx⟩ => by rw [fr_eval]; exact pure_of_qu hX (hq x) w hx⟩) (hS w hw) (by rw [fr_put]; exact h w hw)
end
end Jal
/- a call that hands back a world to stand upon, and the way back -/
namespace Jal
open Go Go.RowKit
/-- a callee's answer: above a base that holds what it made -/
def BaseR (Φ : Value → World → List Ent → Prop) (w : World) : Ending → World → Prop := fun e w' => ∃ v W Hn, e = .returned v ∧ Below w.heap.size w W ∧ Φ v W Hn ∧ Sat W Hn w'
theorem Sat.unbase {w0 wc W w : World} {H Hn : List Ent} (hc : Sat w0 H wc) (hb : Below wc.heap.size wc W) (h : Sat W Hn w) : Sat w0 (H ++ Hn) w := by
  have h1 : Sat w0 H W := hc.step hb
  exact h1.join h
theorem nq_imp {Q : Exit → Act → World → Prop} {w0 w1 : World} {H H1 : List Ent} {e : Exit} {n : Nat} {F : Nat → Value} (hi : ∀ w, Sat w1 H1 w → Sat w0 H w) (h : NQ Q w0 H e n F) : NQ Q w1 H1 e n F := fun w hw => h w (hi w hw)
theorem wl_imp {P : Program} {ops rest} {Q : Exit → Act → World → Prop} {w0 w1 : World} {H H1 : List Ent} {n : Nat} {F : Nat → Value} (hi : ∀ w, Sat w1 H1 w → Sat w0 H w) (h : WL P ops Q w0 H rest n F) : WL P ops Q w1 H1 rest n F := fun w hw => h w (hi w hw)
section
variable {P : Program} {ops : Array Oper} {Q : Exit → Act → World → Prop} {w0 : World} {H : List Ent} {rest : List Oper} {n : Nat} {F : Nat → Value} {d : Nat} {ty : TypeId} {pos : String} {af : Array Edge}
theorem lclB {f : FuncId} {fx : Operand} {xs : List Operand} {ats : Array TypeId} {args : List Value} {Φ : Value → World → List Ent → Prop} (hb : HasBody P f) (hfx : ev n F fx = .func (.func f) #[] #[])
    (hx : xs.map (ev n F) = args) (hc : ∀ w, Sat w0 H w → Calls P f args.toArray w (BaseR Φ w))
    (h : ∀ v W Hn, Φ v W Hn → (∀ w', Sat W Hn w' → Sat w0 (H ++ Hn) w') → WL P ops Q W Hn rest n (upd F d v)) :
    WL P ops Q w0 H (⟨some d, .call { callee := .value fx, args := xs.toArray, argTypes := ats }, ty, pos, af, none⟩ :: rest) n F := fun w hw => wpList_plain rfl fun K hK => by
  obtain ⟨fn, h1, h2, h3⟩ := hb.h
  obtain ⟨c, hcb⟩ := Option.isSome_iff_exists.1 h3
  have h2' : fn.name ≠ "runtime.NumGoroutine" := by simpa using h2
  have hr : (execOp (ev n F) ⟨some d, .call { callee := .value fx, args := xs.toArray, argTypes := ats }, ty, pos, af, none⟩).run P w = .ok (.enter f args.toArray) w := by
    simp [execOp, resolve, hfx, hx, Deferred.ofValue, invoke, callFunc, Sem.run, program, h1, h2', hcb]
  unfold Oper.wp
  rw [fr_eval, hr]
  refine (hc w hw).mono fun e w' ⟨v, W, Hn, h4, h5, h6, h7⟩ => ?_
  subst h4
  exact hK _ _ (by rw [fr_put]; exact h v W Hn h6 (fun w2 h2 => hw.unbase h5 h2) _ h7)
end
end Jal
/- a loop over a map: the iterator below the base of the walk -/
namespace Jal
open Go Go.RowKit
section
variable {κ : Type} (kv : κ → Value)
theorem ents_born (M : List (κ × Value)) : ∀ x ∈ ents kv M 0, ∃ j a v, M[j]? = some (a, v) ∧ x = { key := kv a, val := v, born := j } := fun x hx => by
  obtain ⟨j, hj⟩ := List.getElem?_of_mem hx
  rw [ents_get] at hj
  cases hm : M[j]? with
  | none => rw [hm] at hj; cases hj
  | some p =>
    rw [hm] at hj
    obtain ⟨a, v⟩ := p
    simp only [Option.map_some, Option.some.injEq, Nat.zero_add] at hj
    exact ⟨j, a, v, hm, hj.symm⟩
theorem ents_in (M : List (κ × Value)) {j : Nat} {a : κ} {v : Value} (h : M[j]? = some (a, v)) : ({ key := kv a, val := v, born := j } : MapEntry) ∈ ents kv M 0 := by
  refine List.mem_of_getElem? (i := j) ?_
  rw [ents_get, h]; simp
end
def itO (r : Nat) (M : Nat) (seen : Array Nat) : Obj := .mapIter (some r) M seen M
section
variable {P : Program} {κ : Type} {kv : κ → Value}
theorem run_nextB {w : World} {ty : TypeId} {r it : Nat} {M : List (κ × Value)} {seen : Array Nat} (ho : w.heap[r]? = some (mob kv M)) (hi : w.heap[it]? = some (itO r M.length seen)) :
    ((∀ j, j < M.length → seen.contains j = true) ∧ (Instr.next (.pointer (some ⟨it, 0, none⟩)) false ty).run P w = .ok (.tuple #[.bool false]) w) ∨
    ∃ j a v w1, M[j]? = some (a, v) ∧ seen.contains j = false ∧ (w1 = w ∨ w1 = w.drew) ∧ (Instr.next (.pointer (some ⟨it, 0, none⟩)) false ty).run P w = .ok (.tuple #[.bool true, kv a, v]) (setB w1 it (itO r M.length (seen.push j))) := by
  have hold : ∀ x ∈ (ents kv M 0).toArray.toList, x.born < M.length := fun x hx => by
    obtain ⟨j, a, v, h1, h2⟩ := ents_born kv M x hx
    rw [h2]
    exact (List.getElem?_eq_some_iff.1 h1).1
  have hmem0 : ∀ x ∈ (Array.filter (fun e : MapEntry => !seen.contains e.born) (ents kv M 0).toArray).toList, ∃ j a v, M[j]? = some (a, v) ∧ seen.contains j = false ∧ x = { key := kv a, val := v, born := j } := fun x hx => by
    simp only [Array.toList_filter, List.mem_filter] at hx
    obtain ⟨j, a, v, h1, h2⟩ := ents_born kv M x hx.1
    refine ⟨j, a, v, h1, ?_, h2⟩
    have := hx.2
    rw [h2] at this
    simpa using this
  have hall : (Array.filter (fun e : MapEntry => !seen.contains e.born) (ents kv M 0).toArray).size = 0 → ∀ j, j < M.length → seen.contains j = true := fun h0 j hj => by
    cases hc : seen.contains j with
    | true => rfl
    | false =>
      exfalso
      have h1 : M[j]? = some ((M[j]).1, (M[j]).2) := List.getElem?_eq_getElem hj
      have h2 := ents_in kv M h1
      have h3 : ({ key := kv (M[j]).1, val := (M[j]).2, born := j } : MapEntry) ∈ (Array.filter (fun e : MapEntry => !seen.contains e.born) (ents kv M 0).toArray).toList := by
        simp only [Array.toList_filter, List.mem_filter]
        exact ⟨h2, by show (!seen.contains j) = true; rw [hc]; rfl⟩
      have h4 := List.length_pos_of_mem h3
      rw [Array.length_toList] at h4
      omega
  have hlt : it < w.heap.size := (Array.getElem?_eq_some_iff.1 hi).1
  unfold itO at hi
  unfold mob at ho
  simp only [Instr.next, getObj, Sem.run_bind, Sem.run, hi, ho, Result.andThen, next_test_false seen (ents kv M 0).toArray M.length M.length hold (Nat.le_refl _), Bool.false_eq_true, if_false]
  revert hmem0 hall
  have hmem : ∀ x ∈ (Array.filter (fun e : MapEntry => !seen.contains e.born) (ents kv M 0).toArray).toList, x.born < M.length := fun x hx => hold x (by simp at hx ⊢; exact hx.1)
  generalize Array.filter (fun e : MapEntry => !seen.contains e.born) (ents kv M 0).toArray = L at hmem ⊢
  intro hmem0 hall
  have e1 : L.filter (fun x => decide (x.born < M.length)) = L := Array.filter_eq_self.2 (fun x hx => by simpa using hmem x (by simpa using hx))
  have e2 : L.filter (fun x => decide (x.born ≥ M.length)) = #[] := by
    rw [Array.filter_eq_empty_iff]
    intro x hx
    have := hmem x (by simpa using hx)
    simp
    omega
  simp only [e1, e2, Array.append_empty]
  by_cases h0 : L.size = 0
  · left
    refine ⟨hall h0, ?_⟩
    have : L = #[] := Array.eq_empty_of_size_eq_zero h0
    subst this
    simp [choose, Sem.run, Question.forced]
  · right
    have hne : L.isEmpty = false := by simp [Array.isEmpty, h0]
    simp only [hne, Bool.false_eq_true, if_false, Array.empty_append, Array.size_map]
    have hch : ∃ (j : Nat) (w1 : World), j < L.size ∧ (w1 = w ∨ w1 = w.drew) ∧ (choose (Question.mapNext L.size)).run P w = .ok j w1 := by
      by_cases hf : L.size ≤ 1
      · exact ⟨0, w, by omega, .inl rfl, by simp [choose, Sem.run, Question.forced, hf]⟩
      · exact ⟨_, w.drew, Nat.mod_lt _ (by omega), .inr rfl, by
          simp only [choose, Sem.run, Question.forced, decide_eq_true_eq, hf, if_false, Question.cut]
          rfl⟩
    obtain ⟨j, w1, hj, hal, hrun⟩ := hch
    obtain ⟨q, a, v, h1, h2, h3⟩ := hmem0 L[j] (by simp)
    refine ⟨q, a, v, w1, h1, h2, hal, ?_⟩
    have hw1 : w1.heap = w.heap := by rcases hal with h | h <;> rw [h] <;> rfl
    have hset : ∀ (o' : Obj), (setObj it o').run P w1 = .ok () (setB w1 it o') := fun o' => by
      have hi1 : w1.heap[it]? = some (.mapIter (some r) M.length seen M.length) := by rw [hw1]; exact hi
      simp only [setObj, Sem.run, hi1]
      rfl
    simp only [hrun, Array.getElem?_map, Array.getElem?_eq_getElem hj, Option.map_some, Sem.run_bind, hset, Result.andThen, h3]
    rfl
theorem run_entryB {w : World} {r it j : Nat} {M : List (κ × Value)} {a : κ} {v : Value} {seen : Array Nat} (ho : w.heap[r]? = some (mob kv M)) (hi : w.heap[it]? = some (itO r M.length (seen.push j))) (hj : M[j]? = some (a, v)) :
    (Instr.entry (.pointer (some ⟨it, 0, none⟩))).run P w = .ok (.tuple #[kv a, v]) w := by
  have hf : (ents kv M 0).toArray.find? (fun e => e.born == j) = some { key := kv a, val := v, born := j } := by
    rw [← Array.find?_toList]
    have hn : ((ents kv M 0).map (·.born)).Nodup := by
      have : (ents kv M 0).map (·.born) = List.range M.length := by
        apply List.ext_getElem?
        intro i
        rw [List.getElem?_map, ents_get]
        by_cases hi : i < M.length
        · rw [List.getElem?_range hi, List.getElem?_eq_getElem hi]; simp
        · rw [List.getElem?_eq_none (by simpa using hi), List.getElem?_eq_none (by simpa using hi)]; rfl
      rw [this]; exact List.nodup_range
    exact Go.find_born { key := kv a, val := v, born := j } _ hn (ents_in kv M hj)
  unfold itO at hi
  unfold mob at ho
  simp only [Instr.entry, getObj, Sem.run_bind, Sem.run, hi, ho, Result.andThen, Array.back?_push, bne_self_eq_false, Bool.false_eq_true, if_false, hf]
  rfl
end
section
variable {P : Program} {ops : Array Oper} {Q : Exit → Act → World → Prop} {w0 : World} {H : List Ent} {rest : List Oper} {n : Nat} {F : Nat → Value} {d : Nat} {ty : TypeId} {pos : String} {af : Array Edge} {κ : Type} {kv : κ → Value}
/-- a loop over a map begins: the walk goes on above the world as it stands -/
theorem lrng {t k e : TypeId} {m : Operand} {r : Nat} {M : List (κ × Value)} (ht : P.underlying t = some (.map k e)) (hm : ev n F m = .map (some r)) (hr : r < w0.heap.size) (ho : w0.heap[r]? = some (mob kv M))
    (h : ∀ w, Sat w0 H w → ∀ w1, w1 = w.alloc (itO r M.length #[]) → WL P ops Q w1 [] rest n (upd F d (.pointer (some ⟨w.heap.size, 0, none⟩)))) :
    WL P ops Q w0 H (⟨some d, .range t m, ty, pos, af, none⟩ :: rest) n F := fun w hw => wpList_plain rfl fun K hK => by
  have hrun := run_range_map (P := P) w t k e r (ents kv M 0).toArray M.length ht ((hw.below.block r hr).trans ho)
  have hr' : (execOp (fr n F).eval ⟨some d, .range t m, ty, pos, af, none⟩).run P w = .ok (.value (.pointer (some ⟨w.heap.size, 0, none⟩))) (w.alloc (itO r M.length #[])) := by
    simp [execOp, fr_eval, hm, hrun, itO]
  unfold Oper.wp
  rw [hr']
  exact hK _ _ (by rw [fr_put]; exact h w hw _ rfl _ (Sat.start _))
theorem lnxt {it : Operand} {i r : Nat} {M : List (κ × Value)} {seen : Array Nat} (hi : ev n F it = .pointer (some ⟨i, 0, none⟩)) (hil : i < w0.heap.size) (hio : w0.heap[i]? = some (itO r M.length seen)) (hr : r < w0.heap.size) (ho : w0.heap[r]? = some (mob kv M))
    (h0 : (∀ j, j < M.length → seen.contains j = true) → WL P ops Q w0 H rest n (upd F d (.tuple #[.bool false])))
    (h1 : ∀ j a v, M[j]? = some (a, v) → seen.contains j = false → WL P ops Q (setB w0 i (itO r M.length (seen.push j))) H rest n (upd F d (.tuple #[.bool true, kv a, v]))) :
    WL P ops Q w0 H (⟨some d, .next it false, ty, pos, af, none⟩ :: rest) n F := fun w hw => wpList_plain rfl fun K hK => by
  rcases run_nextB (P := P) (ty := ty) (kv := kv) ((hw.below.block r hr).trans ho) ((hw.below.block i hil).trans hio) with ⟨h2, h3⟩ | ⟨j, a, v, w1, h2, h3, h4, h5⟩
  · have hr' : (execOp (fr n F).eval ⟨some d, .next it false, ty, pos, af, none⟩).run P w = .ok (.value (.tuple #[.bool false])) w := by
      simp [execOp, fr_eval, hi, h3]
    unfold Oper.wp
    rw [hr']
    exact hK _ _ (by rw [fr_put]; exact h0 h2 _ hw)
  · have hr' : (execOp (fr n F).eval ⟨some d, .next it false, ty, pos, af, none⟩).run P w = .ok (.value (.tuple #[.bool true, kv a, v])) (setB w1 i (itO r M.length (seen.push j))) := by
      simp [execOp, fr_eval, hi, h5]
    unfold Oper.wp
    rw [hr']
    have hs : Sat w0 H w1 := h4.elim (fun h => by rw [h]; exact hw) (fun h => by rw [h]; exact hw.drew)
    exact hK _ _ (by rw [fr_put]; exact h1 j a v h2 h3 _ (hs.setB hil _))
theorem lent {it : Operand} {i r j : Nat} {M : List (κ × Value)} {a : κ} {v : Value} {seen : Array Nat} (hi : ev n F it = .pointer (some ⟨i, 0, none⟩)) (hil : i < w0.heap.size) (hio : w0.heap[i]? = some (itO r M.length (seen.push j))) (hr : r < w0.heap.size) (ho : w0.heap[r]? = some (mob kv M)) (hj : M[j]? = some (a, v))
    (h : WL P ops Q w0 H rest n (upd F d (.tuple #[kv a, v]))) :
    WL P ops Q w0 H (⟨some d, .entry it, ty, pos, af, none⟩ :: rest) n F := fun w hw => wpList_plain rfl fun K hK => by
  have h3 := run_entryB (P := P) (kv := kv) ((hw.below.block r hr).trans ho) ((hw.below.block i hil).trans hio) hj
  have hr' : (execOp (fr n F).eval ⟨some d, .entry it, ty, pos, af, none⟩).run P w = .ok (.value (.tuple #[kv a, v])) w := by
    simp [execOp, fr_eval, hi, h3]
  unfold Oper.wp
  rw [hr']
  exact hK _ _ (by rw [fr_put]; exact h _ hw)
end
end Jal
/- the sort of the library at the items of this program: laid by the kit's tool, in plain words -/
namespace Go.Proofs
open Go.Shelf
def Try.sortIt_ren : Go.Shelf.Ren := ⟨fun | 6 => 92 | 15 => 123 | 14 => 122 | 28 => 146 | 29 => 147 | 20 => 138 | 21 => 139 | 22 => 140 | 23 => 141 | 24 => 142 | 25 => 143 | 26 => 144 | 27 => 145 | 46 => 149 | 47 => 150 | 48 => 151 | 49 => 152 | 50 => 153 | 57 => 154 | n => n, fun | 22 => 90 | 24 => 83 | 25 => 124 | 3 => 3 | 39 => 147 | 0 => 0 | 53 => 170 | 55 => 22 | 4 => 4 | 46 => 163 | 45 => 162 | 50 => 167 | 5 => 5 | 9 => 9 | 66 => 173 | 70 => 177 | 76 => 179 | 77 => 180 | n => n, fun | n => n⟩
theorem Try.sortIt : Go.Proofs.SlLaysF0.n6 Try.prog Try.sortIt_ren := {
  mixed := by kernel_rfl
  f6 := ⟨Try.f92.name, by decide, Try.func92.trans (congrArg some (by kernel_rfl))⟩
  f14 := ⟨Try.f122.name, by decide, Try.func122.trans (congrArg some (by kernel_rfl))⟩
  f15 := Try.func123.trans (congrArg some (by kernel_rfl))
  f20 := ⟨Try.f138.name, by decide, Try.func138.trans (congrArg some (by kernel_rfl))⟩
  f21 := ⟨Try.f139.name, by decide, Try.func139.trans (congrArg some (by kernel_rfl))⟩
  f22 := ⟨Try.f140.name, by decide, Try.func140.trans (congrArg some (by kernel_rfl))⟩
  f23 := ⟨Try.f141.name, by decide, Try.func141.trans (congrArg some (by kernel_rfl))⟩
  f24 := ⟨Try.f142.name, by decide, Try.func142.trans (congrArg some (by kernel_rfl))⟩
  f25 := ⟨Try.f143.name, by decide, Try.func143.trans (congrArg some (by kernel_rfl))⟩
  f26 := ⟨Try.f144.name, by decide, Try.func144.trans (congrArg some (by kernel_rfl))⟩
  f27 := ⟨Try.f145.name, by decide, Try.func145.trans (congrArg some (by kernel_rfl))⟩
  f28 := Try.func146.trans (congrArg some (by kernel_rfl))
  f29 := Try.func147.trans (congrArg some (by kernel_rfl))
  f46 := ⟨Try.f149.name, by decide, Try.func149.trans (congrArg some (by kernel_rfl))⟩
  f47 := Try.func150.trans (congrArg some (by kernel_rfl))
  f48 := Try.func151.trans (congrArg some (by kernel_rfl))
  f49 := ⟨Try.f152.name, by decide, Try.func152.trans (congrArg some (by kernel_rfl))⟩
  f50 := ⟨Try.f153.name, by decide, Try.func153.trans (congrArg some (by kernel_rfl))⟩
  f57 := ⟨Try.f154.name, by decide, Try.func154.trans (congrArg some (by kernel_rfl))⟩
  t0 := Try.underlying0
  a0 := Try.isAgg0
  z0 := Try.sizeOf0
  v0 := Try.zeroValue0
  t3 := Try.underlying3
  a3 := Try.isAgg3
  z3 := Try.sizeOf3
  v3 := Try.zeroValue3
  t4 := Try.underlying4
  a4 := Try.isAgg4
  z4 := Try.sizeOf4
  v4 := Try.zeroValue4
  t5 := Try.underlying5
  a5 := Try.isAgg5
  z5 := Try.sizeOf5
  v5 := Try.zeroValue5
  t9 := Try.underlying9
  a9 := Try.isAgg9
  z9 := Try.sizeOf9
  v9 := Try.zeroValue9
  t22 := Try.underlying90
  a22 := Try.isAgg90
  z22 := Try.sizeOf90
  v22 := Try.zeroValue90
  t25 := Try.underlying124
  a25 := Try.isAgg124
  z25 := Try.sizeOf124
  v25 := Try.zeroValue124
  t39 := Try.underlying147
  a39 := Try.isAgg147
  z39 := Try.sizeOf147
  v39 := Try.zeroValue147
  t45 := Try.underlying162
  a45 := Try.isAgg162
  z45 := Try.sizeOf162
  v45 := Try.zeroValue162
  t46 := Try.underlying163
  a46 := Try.isAgg163
  z46 := Try.sizeOf163
  v46 := Try.zeroValue163
  t50 := Try.underlying167
  a50 := Try.isAgg167
  z50 := Try.sizeOf167
  v50 := Try.zeroValue167
  t53 := Try.underlying170
  a53 := Try.isAgg170
  z53 := Try.sizeOf170
  v53 := Try.zeroValue170
  t55 := Try.underlying22
  a55 := Try.isAgg22
  z55 := Try.sizeOf22
  v55 := Try.zeroValue22
  t66 := Try.underlying173
  a66 := Try.isAgg173
  z66 := Try.sizeOf173
  v66 := Try.zeroValue173
  t70 := Try.underlying177
  a70 := Try.isAgg177
  z70 := Try.sizeOf177
  v70 := Try.zeroValue177
  t76 := Try.underlying179
  a76 := Try.isAgg179
  z76 := Try.sizeOf179
  v76 := Try.zeroValue179
  t77 := Try.underlying180
  a77 := Try.isAgg180
  z77 := Try.sizeOf180
  v77 := Try.zeroValue180 }
end Go.Proofs
/- walks, printed by a program of ours -/
namespace Go.Proofs.Ytkdbjhlkahkobaa
open Jal Go.RowKit
set_option maxRecDepth 100000
theorem writer_calls (n : Int) (w : World) : Calls Try.prog 70 #[.int .i64 n] w (Ret (.bool (writerB n)) w) := by
  refine fn_calls (n := 9) Try.func70 rfl rfl (lb rfl) ?_
  refine cseq ?_
  refine creg ?_
  refine l1 (asgb rfl) ?_
  refine lnil ?_
  refine nthen ?_
  refine cseq ?_
  refine creg ?_
  refine l1 (mvi rfl) ?_
  refine l1 (geq rfl rfl) ?_
  refine l1 (mvb rfl) ?_
  refine l1g rfl (gwt rfl) (fun h => mvi rfl) ?_
  refine l1g rfl (gwt rfl) (fun h => leq (gvt h) rfl) ?_
  refine l1 (pk_and rfl rfl rfl) ?_
  refine l1 (asgb rfl) ?_
  refine lnil ?_
  refine nthen ?_
  refine cret ?_
  exact fin1 rfl rfl

theorem is_calls (g : Grp) (n : Int) (hn : -9223372036854775808 ≤ n ∧ n ≤ 9223372036854775807) (w : World) : Calls Try.prog 34 #[.agg (encG g).toArray, .int .i64 n] w (Ret (.bool (inB g.members n)) w) := by
  refine fn_calls (n := 14) Try.func34 rfl rfl (lb rfl) ?_
  refine cseq ?_
  refine creg ?_
  refine lbxa rfl (fun b1 => ?_)
  refine l1 (asgb rfl) ?_
  refine lnil ?_
  refine nthen ?_
  refine cseq ?_
  refine creg ?_
  refine l1 (mvi rfl) ?_
  refine l1 (cl hb70 rfl (mc rfl mn) (fun w hw => writer_calls _ w)) ?_
  refine l1 (mvb rfl) ?_
  refine l1g rfl (gwt rfl) (fun h => mvi rfl) ?_
  refine l1g rfl (gwt rfl) (fun h => subn (gvt h) rfl (ri (by have := writerB_iff.1 h; omega) (by omega))) ?_
  refine l1g rfl (gwt rfl) (fun h => fa fa43_2 rfl) ?_
  refine l1g rfl (gwt rfl) (fun h => ia ar41 (gvt h) (gvt h) (by have := writerB_iff.1 h; omega) (by have := writerB_iff.1 h; omega)) ?_
  refine l1g rfl (gwt rfl) (fun h => ldc 0 Try.isAgg4 rfl (gvt h) (encG_members g _ (by have := writerB_iff.1 h; omega))) ?_
  refine l1 (pk_and rfl rfl rfl) ?_
  refine l1 (asgb rfl) ?_
  refine lnil ?_
  refine nthen ?_
  refine cret ?_
  exact fin1 rfl rfl

theorem gone_calls (g : Grp) (n : Int) (hn : -9223372036854775808 ≤ n ∧ n ≤ 9223372036854775807) (w : World) : Calls Try.prog 73 #[.agg (encG g).toArray, .int .i64 n] w (Ret (.bool (inB g.gone n)) w) := by
  refine fn_calls (n := 14) Try.func73 rfl rfl (lb rfl) ?_
  refine cseq ?_
  refine creg ?_
  refine lbxa rfl (fun b1 => ?_)
  refine l1 (asgb rfl) ?_
  refine lnil ?_
  refine nthen ?_
  refine cseq ?_
  refine creg ?_
  refine l1 (mvi rfl) ?_
  refine l1 (cl hb70 rfl (mc rfl mn) (fun w hw => writer_calls _ w)) ?_
  refine l1 (mvb rfl) ?_
  refine l1g rfl (gwt rfl) (fun h => mvi rfl) ?_
  refine l1g rfl (gwt rfl) (fun h => subn (gvt h) rfl (ri (by have := writerB_iff.1 h; omega) (by omega))) ?_
  refine l1g rfl (gwt rfl) (fun h => fa fa43_3 rfl) ?_
  refine l1g rfl (gwt rfl) (fun h => ia ar41 (gvt h) (gvt h) (by have := writerB_iff.1 h; omega) (by have := writerB_iff.1 h; omega)) ?_
  refine l1g rfl (gwt rfl) (fun h => ldc 0 Try.isAgg4 rfl (gvt h) (encG_gone g _ (by have := writerB_iff.1 h; omega))) ?_
  refine l1 (pk_and rfl rfl rfl) ?_
  refine l1 (asgb rfl) ?_
  refine lnil ?_
  refine nthen ?_
  refine cret ?_
  exact fin1 rfl rfl

theorem formed_calls (op m : Int) (w : World) : Calls Try.prog 71 #[.int .i64 op, .int .i64 m] w (Ret (.bool (formedB op m)) w) := by
  refine fn_calls (n := 17) Try.func71 rfl rfl (lb rfl) ?_
  refine cseq ?_
  refine creg ?_
  refine l1 (asgb rfl) ?_
  refine lnil ?_
  refine nthen ?_
  refine cseq ?_
  refine cseq ?_
  refine creg ?_
  refine l1 (mvi rfl) ?_
  refine lnil ?_
  refine nthen ?_
  refine cblock ?_
  refine cseq ?_
  refine cseq ?_
  refine creg ?_
  refine l1 (eql rfl rfl) ?_
  refine l1 (asgb rfl) ?_
  refine lnil ?_
  refine nthen ?_
  refine cif rfl (fun h1 => ?_) (fun h1 => ?_)
  · skip
    refine cskip ?_
    refine nthen ?_
    refine cift (bt rfl h1) ?_
    refine cseq ?_
    refine creg ?_
    refine l1 (mvi rfl) ?_
    refine l1 (eql rfl rfl) ?_
    refine l1 (asgb rfl) ?_
    refine lnil ?_
    refine nthen ?_
    refine cret ?_
    refine nblkR ?_
    refine nthenR ?_
    exact fin1b rfl rfl (by first | rfl | (simp only [formedB, h1, cond_true, cond_false]; done))
  · skip
    refine creg ?_
    refine l1 (eql rfl rfl) ?_
    refine l1 (asgb rfl) ?_
    refine lnil ?_
    refine nthen ?_
    refine cif rfl (fun h2 => ?_) (fun h2 => ?_)
    · skip
      refine cseq ?_
      refine creg ?_
      refine l1 (mvi rfl) ?_
      refine l1 (eql rfl rfl) ?_
      refine l1 (asgb rfl) ?_
      refine lnil ?_
      refine nthen ?_
      refine cret ?_
      refine nblkR ?_
      refine nthenR ?_
      exact fin1b rfl rfl (by first | rfl | (simp only [formedB, h1, h2, cond_true, cond_false]; done))
    · skip
      refine cseq ?_
      refine cseq ?_
      refine creg ?_
      refine l1 (eql rfl rfl) ?_
      refine l1 (asgb rfl) ?_
      refine lnil ?_
      refine nthen ?_
      refine cif rfl (fun h3 => ?_) (fun h3 => ?_)
      · skip
        refine cskip ?_
        refine nthen ?_
        refine cift (bt rfl h3) ?_
        refine cseq ?_
        refine creg ?_
        refine l1 (mvi rfl) ?_
        refine l1 (cl hb70 rfl (mc rfl mn) (fun w hw => writer_calls _ w)) ?_
        refine l1 (asgb rfl) ?_
        refine lnil ?_
        refine nthen ?_
        refine cret ?_
        refine nblkR ?_
        refine nthenR ?_
        exact fin1b rfl rfl (by first | rfl | (simp only [formedB, h1, h2, h3, cond_true, cond_false]; done))
      · skip
        refine cseq ?_
        refine creg ?_
        refine l1 (eql rfl rfl) ?_
        refine l1 (asgb rfl) ?_
        refine lnil ?_
        refine nthen ?_
        refine cif rfl (fun h4 => ?_) (fun h4 => ?_)
        · skip
          refine cskip ?_
          refine nthen ?_
          refine cift (bt rfl h4) ?_
          refine cseq ?_
          refine creg ?_
          refine l1 (mvi rfl) ?_
          refine l1 (cl hb70 rfl (mc rfl mn) (fun w hw => writer_calls _ w)) ?_
          refine l1 (asgb rfl) ?_
          refine lnil ?_
          refine nthen ?_
          refine cret ?_
          refine nblkR ?_
          refine nthenR ?_
          exact fin1b rfl rfl (by first | rfl | (simp only [formedB, h1, h2, h3, h4, cond_true, cond_false]; done))
        · skip
          refine creg ?_
          refine l1 (eql rfl rfl) ?_
          refine l1 (asgb rfl) ?_
          refine lnil ?_
          refine nthen ?_
          refine cif rfl (fun h5 => ?_) (fun h5 => ?_)
          · skip
            refine cseq ?_
            refine creg ?_
            refine l1 (mvi rfl) ?_
            refine l1 (cl hb70 rfl (mc rfl mn) (fun w hw => writer_calls _ w)) ?_
            refine l1 (asgb rfl) ?_
            refine lnil ?_
            refine nthen ?_
            refine cret ?_
            refine nblkR ?_
            refine nthenR ?_
            exact fin1b rfl rfl (by first | rfl | (simp only [formedB, h1, h2, h3, h4, h5, cond_true, cond_false]; done))
          · skip
            refine cskip ?_
            refine nblkN ?_
            refine nthen ?_
            refine cseq ?_
            refine creg ?_
            refine l1 (asgb rfl) ?_
            refine lnil ?_
            refine nthen ?_
            refine cret ?_
            exact fin1b rfl rfl (by first | rfl | (simp only [formedB, h1, h2, h3, h4, h5, cond_true, cond_false]; done))

theorem state_calls (g : Grp) (n op m : Int) (hm : -9223372036854775808 ≤ m ∧ m ≤ 9223372036854775807) (w : World) : Calls Try.prog 72 #[.agg (encG g).toArray, .int .i64 n, .int .i64 op, .int .i64 m] w (Ret (.bool (stateB g n op m)) w) := by
  refine fn_calls (n := 43) Try.func72 rfl rfl (lb rfl) ?_
  refine cseq ?_
  refine creg ?_
  refine lbxa rfl (fun b1 => ?_)
  refine l1 (asgb rfl) ?_
  refine lnil ?_
  refine nthen ?_
  refine cseq ?_
  refine cseq ?_
  refine creg ?_
  refine l1 (mvi rfl) ?_
  refine l1 (eql rfl rfl) ?_
  refine lnil ?_
  refine nthen ?_
  refine cif rfl (fun h1 => ?_) (fun h1 => ?_)
  · skip
    refine cseq ?_
    refine creg ?_
    refine l1 (fa fa43_0 rfl) ?_
    refine l1 (ldc 0 Try.isAgg3 rfl rfl rfl) ?_
    refine l1 (eql rfl rfl) ?_
    refine l1 (asgb rfl) ?_
    refine lnil ?_
    refine nthen ?_
    refine cret ?_
    refine nthenR ?_
    exact fin1b rfl rfl (by first | rfl | (simp only [stateB, h1, cond_true, cond_false]; done))
  · skip
    refine cskip ?_
    refine nthen ?_
    refine cseq ?_
    refine cseq ?_
    refine creg ?_
    refine l1 (fa fa43_0 rfl) ?_
    refine l1 (ldc 0 Try.isAgg3 rfl rfl rfl) ?_
    refine l1 (mvi rfl) ?_
    refine l1 (neq rfl rfl) ?_
    refine lnil ?_
    refine nthen ?_
    refine cif rfl (fun h2 => ?_) (fun h2 => ?_)
    · skip
      refine cseq ?_
      refine creg ?_
      refine l1 (asgb rfl) ?_
      refine lnil ?_
      refine nthen ?_
      refine cret ?_
      refine nthenR ?_
      exact fin1b rfl rfl (by first | rfl | (simp only [stateB, h1, h2, cond_true, cond_false]; done))
    · skip
      refine cskip ?_
      refine nthen ?_
      refine cseq ?_
      refine cseq ?_
      refine creg ?_
      refine l1 (mvi rfl) ?_
      refine lnil ?_
      refine nthen ?_
      refine cblock ?_
      refine cseq ?_
      refine creg ?_
      refine l1 (eql rfl rfl) ?_
      refine l1 (asgb rfl) ?_
      refine lnil ?_
      refine nthen ?_
      refine cif rfl (fun h3 => ?_) (fun h3 => ?_)
      · skip
        refine cseq ?_
        refine creg ?_
        refine l1 (ldw 0 Try.isAgg43 Try.sizeOf43 rfl rfl rfl) ?_
        refine l1 (mvi rfl) ?_
        refine l1 (cl hb34 rfl (mc rfl (mc rfl mn)) (fun w hw => is_calls _ _ (by omega) w)) ?_
        refine l1 (nt rfl) ?_
        refine l1 (mvb rfl) ?_
        refine l1g rfl (gwt rfl) (fun h => ldw 0 Try.isAgg43 Try.sizeOf43 rfl rfl rfl) ?_
        refine l1g rfl (gwt rfl) (fun h => mvi rfl) ?_
        refine l1g rfl (gwt rfl) (fun h => cl hb73 rfl (mc (gvt h) (mc (gvt h) mn)) (fun w hw => gone_calls _ _ (by omega) w)) ?_
        refine l1g rfl (gwt rfl) (fun h => nt (gvt h)) ?_
        refine l1 (pk_and rfl rfl rfl) ?_
        refine l1 (asgb rfl) ?_
        refine lnil ?_
        refine nthen ?_
        refine cret ?_
        refine nblkR ?_
        refine nthenR ?_
        exact fin1b rfl rfl (by first | rfl | (simp only [stateB, h1, h2, h3, cond_true, cond_false]; done))
      · skip
        refine cseq ?_
        refine cseq ?_
        refine creg ?_
        refine l1 (eql rfl rfl) ?_
        refine l1 (asgb rfl) ?_
        refine lnil ?_
        refine nthen ?_
        refine cif rfl (fun h4 => ?_) (fun h4 => ?_)
        · skip
          refine cskip ?_
          refine nthen ?_
          refine cift (bt rfl h4) ?_
          refine cseq ?_
          refine creg ?_
          refine l1 (ldw 0 Try.isAgg43 Try.sizeOf43 rfl rfl rfl) ?_
          refine l1 (mvi rfl) ?_
          refine l1 (cl hb34 rfl (mc rfl (mc rfl mn)) (fun w hw => is_calls _ _ (by omega) w)) ?_
          refine l1 (mvb rfl) ?_
          refine l1g rfl (gwt rfl) (fun h => mvi rfl) ?_
          refine l1g rfl (gwt rfl) (fun h => fa fa43_0 rfl) ?_
          refine l1g rfl (gwt rfl) (fun h => ldc 0 Try.isAgg3 rfl (gvt h) rfl) ?_
          refine l1g rfl (gwt rfl) (fun h => neq (gvt h) (gvt h)) ?_
          refine l1 (pk_and rfl rfl rfl) ?_
          refine l1 (asgb rfl) ?_
          refine lnil ?_
          refine nthen ?_
          refine cret ?_
          refine nblkR ?_
          refine nthenR ?_
          exact fin1b rfl rfl (by first | rfl | (simp only [stateB, h1, h2, h3, h4, cond_true, cond_false]; done))
        · skip
          refine creg ?_
          refine l1 (eql rfl rfl) ?_
          refine l1 (asgb rfl) ?_
          refine lnil ?_
          refine nthen ?_
          refine cif rfl (fun h5 => ?_) (fun h5 => ?_)
          · skip
            refine cseq ?_
            refine creg ?_
            refine l1 (ldw 0 Try.isAgg43 Try.sizeOf43 rfl rfl rfl) ?_
            refine l1 (mvi rfl) ?_
            refine l1 (cl hb34 rfl (mc rfl (mc rfl mn)) (fun w hw => is_calls _ _ (by omega) w)) ?_
            refine l1 (mvb rfl) ?_
            refine l1g rfl (gwt rfl) (fun h => mvi rfl) ?_
            refine l1g rfl (gwt rfl) (fun h => fa fa43_0 rfl) ?_
            refine l1g rfl (gwt rfl) (fun h => ldc 0 Try.isAgg3 rfl (gvt h) rfl) ?_
            refine l1g rfl (gwt rfl) (fun h => neq (gvt h) (gvt h)) ?_
            refine l1 (pk_and rfl rfl rfl) ?_
            refine l1 (asgb rfl) ?_
            refine lnil ?_
            refine nthen ?_
            refine cret ?_
            refine nblkR ?_
            refine nthenR ?_
            exact fin1b rfl rfl (by first | rfl | (simp only [stateB, h1, h2, h3, h4, h5, cond_true, cond_false]; done))
          · skip
            refine cskip ?_
            refine nblkN ?_
            refine nthen ?_
            refine cseq ?_
            refine creg ?_
            refine l1 (asgb rfl) ?_
            refine lnil ?_
            refine nthen ?_
            refine cret ?_
            exact fin1b rfl rfl (by first | rfl | (simp only [stateB, h1, h2, h3, h4, h5, cond_true, cond_false]; done))

theorem may_calls (g : Grp) (n op m : Int) (hm : -9223372036854775808 ≤ m ∧ m ≤ 9223372036854775807) (w : World) : Calls Try.prog 32 #[.agg (encG g).toArray, .int .i64 n, .int .i64 op, .int .i64 m] w (Ret (.int .i64 (mayI g n op m)) w) := by
  refine fn_calls (n := 34) Try.func32 rfl rfl (lb rfl) ?_
  refine cseq ?_
  refine creg ?_
  refine lbxa rfl (fun b1 => ?_)
  refine l1 (asgi rfl) ?_
  refine lnil ?_
  refine nthen ?_
  refine cseq ?_
  refine cblock ?_
  refine cseq ?_
  refine creg ?_
  refine l1 (mvi rfl) ?_
  refine l1 (cl hb70 rfl (mc rfl mn) (fun w hw => writer_calls _ w)) ?_
  refine l1 (nt rfl) ?_
  refine l1 (mvb rfl) ?_
  refine l1g rfl (gwf rfl) (fun h => mvi rfl) ?_
  refine l1g rfl (gwf rfl) (fun h => mvi rfl) ?_
  refine l1g rfl (gwf rfl) (fun h => cl hb71 rfl (mc (gvt h) (mc (gvt h) mn)) (fun w hw => formed_calls _ _ w)) ?_
  refine l1g rfl (gwf rfl) (fun h => nt (gvt h)) ?_
  refine l1 (pk_or rfl rfl rfl) ?_
  refine l1 (asgb rfl) ?_
  refine lnil ?_
  refine nthen ?_
  refine cif rfl (fun h1 => ?_) (fun h1 => ?_)
  · skip
    refine cseq ?_
    refine creg ?_
    refine l1 (asgi rfl) ?_
    refine lnil ?_
    refine nthen ?_
    refine cret ?_
    refine nblkR ?_
    refine nthenR ?_
    exact fin1i rfl rfl (by first | rfl | (simp only [mayI, h1, cond_true, cond_false]; done))
  · skip
    refine cseq ?_
    refine creg ?_
    refine l1 (ldw 0 Try.isAgg43 Try.sizeOf43 rfl rfl rfl) ?_
    refine l1 (mvi rfl) ?_
    refine l1 (mvi rfl) ?_
    refine l1 (mvi rfl) ?_
    refine l1 (cl hb72 rfl (mc rfl (mc rfl (mc rfl (mc rfl mn)))) (fun w hw => state_calls _ _ _ _ (by omega) w)) ?_
    refine l1 (nt rfl) ?_
    refine l1 (asgb rfl) ?_
    refine lnil ?_
    refine nthen ?_
    refine cif rfl (fun h2 => ?_) (fun h2 => ?_)
    · skip
      refine cseq ?_
      refine creg ?_
      refine l1 (asgi rfl) ?_
      refine lnil ?_
      refine nthen ?_
      refine cret ?_
      refine nblkR ?_
      refine nthenR ?_
      exact fin1i rfl rfl (by first | rfl | (simp only [mayI, h1, h2, cond_true, cond_false]; done))
    · skip
      refine cseq ?_
      refine creg ?_
      refine l1 (mvi rfl) ?_
      refine l1 (neq rfl rfl) ?_
      refine l1 (mvb rfl) ?_
      refine l1g rfl (gwt rfl) (fun h => fa fa43_1 rfl) ?_
      refine l1g rfl (gwt rfl) (fun h => ldc 0 Try.isAgg3 rfl (gvt h) rfl) ?_
      refine l1g rfl (gwt rfl) (fun h => geq (gvt h) rfl) ?_
      refine l1 (pk_and rfl rfl rfl) ?_
      refine l1 (asgb rfl) ?_
      refine lnil ?_
      refine nthen ?_
      refine cif rfl (fun h3 => ?_) (fun h3 => ?_)
      · skip
        refine cseq ?_
        refine creg ?_
        refine l1 (asgi rfl) ?_
        refine lnil ?_
        refine nthen ?_
        refine cret ?_
        refine nblkR ?_
        refine nthenR ?_
        exact fin1i rfl rfl (by first | rfl | (simp only [mayI, h1, h2, h3, cond_true, cond_false]; done))
      · skip
        refine cskip ?_
        refine nblkN ?_
        refine nthen ?_
        refine cseq ?_
        refine creg ?_
        refine l1 (asgi rfl) ?_
        refine lnil ?_
        refine nthen ?_
        refine cret ?_
        exact fin1i rfl rfl (by first | rfl | (simp only [mayI, h1, h2, h3, cond_true, cond_false]; done))

theorem counts_calls (g : Grp) (n seq : Int) (hn : -9223372036854775808 ≤ n ∧ n ≤ 9223372036854775807) (w : World) : Calls Try.prog 35 #[.agg (encG g).toArray, .int .i64 n, .int .u64 seq] w (Ret (.bool (countsB g n seq)) w) := by
  refine fn_calls (n := 24) Try.func35 rfl rfl (lb rfl) ?_
  refine cseq ?_
  refine creg ?_
  refine lbxa rfl (fun b1 => ?_)
  refine l1 (asgb rfl) ?_
  refine lnil ?_
  refine nthen ?_
  refine cseq ?_
  refine creg ?_
  refine l1 (ldw 0 Try.isAgg43 Try.sizeOf43 rfl rfl rfl) ?_
  refine l1 (mvi rfl) ?_
  refine l1 (cl hb34 rfl (mc rfl (mc rfl mn)) (fun w hw => is_calls _ _ (by omega) w)) ?_
  refine l1 (mvb rfl) ?_
  refine l1g rfl (gwf rfl) (fun h => ldw 0 Try.isAgg43 Try.sizeOf43 rfl rfl rfl) ?_
  refine l1g rfl (gwf rfl) (fun h => mvi rfl) ?_
  refine l1g rfl (gwf rfl) (fun h => cl hb73 rfl (mc (gvt h) (mc (gvt h) mn)) (fun w hw => gone_calls _ _ (by omega) w)) ?_
  refine l1g rfl (gwf rfl) (fun h => mvb (gvt h)) ?_
  refine l1g rfl (ggt rfl) (fun h => mvi rfl) ?_
  refine l1g rfl (ggt rfl) (fun h => mvi rfl) ?_
  refine l1g rfl (ggt rfl) (fun h => subn (gvt h) rfl (ri (by have := inB_w (al2 h); omega) (by omega))) ?_
  refine l1g rfl (ggt rfl) (fun h => fa fa43_4 rfl) ?_
  refine l1g rfl (ggt rfl) (fun h => ia ar23 (gvt h) (gvt h) (by have := inB_w (al2 h); omega) (by have := inB_w (al2 h); omega)) ?_
  refine l1g rfl (ggt rfl) (fun h => ldc 0 Try.isAgg22 rfl (gvt h) (encG_cut g _ (by have := inB_w (al2 h); omega))) ?_
  refine l1g rfl (ggt rfl) (fun h => leq (gvt h) (gvt h)) ?_
  refine l1g rfl (gwf rfl) (fun h => pk_and (gvt h) (gva h) rfl) ?_
  refine l1 (pk_or rfl rfl rfl) ?_
  refine l1 (asgb rfl) ?_
  refine lnil ?_
  refine nthen ?_
  refine cret ?_
  exact fin1 rfl rfl

theorem behind_calls (g : Grp) (n op m cut : Int) (w : World) : Calls Try.prog 33 #[.agg (encG g).toArray, .int .i64 n, .int .i64 op, .int .i64 m, .int .u64 cut] w (Ret (.agg (encG (behindG g n op m cut)).toArray) w) := by
  refine fn_calls (n := 65) Try.func33 rfl rfl (lb rfl) ?_
  refine cseq ?_
  refine creg ?_
  refine lbxa rfl (fun b1 => ?_)
  refine lal Try.zeroValue43 rfl (fun b2 => ?_)
  refine lnil ?_
  refine nthen ?_
  refine cseq ?_
  refine cseq ?_
  refine creg ?_
  refine l1 (mvi rfl) ?_
  refine l1 (cl hb70 rfl (mc rfl mn) (fun w hw => writer_calls _ w)) ?_
  refine l1 (nt rfl) ?_
  refine l1 (mvb rfl) ?_
  refine l1g rfl (gwf rfl) (fun h => mvi rfl) ?_
  refine l1g rfl (gwf rfl) (fun h => mvi rfl) ?_
  refine l1g rfl (gwf rfl) (fun h => cl hb71 rfl (mc (gvt h) (mc (gvt h) mn)) (fun w hw => formed_calls _ _ w)) ?_
  refine l1g rfl (gwf rfl) (fun h => nt (gvt h)) ?_
  refine l1 (pk_or rfl rfl rfl) ?_
  refine lnil ?_
  refine nthen ?_
  refine cif rfl (fun h1 => ?_) (fun h1 => ?_)
  · try (obtain ⟨hw, hf⟩ := orf h1; have hb := writerB_iff.1 hw)
    refine cseq ?_
    refine creg ?_
    refine l1 (ldw 0 Try.isAgg43 Try.sizeOf43 rfl rfl rfl) ?_
    refine lstw 1 rfl rfl rfl Try.sizeOf43 rfl rfl rfl ?_
    refine lnil ?_
    refine nthen ?_
    refine cret ?_
    refine nthenR ?_
    exact finc 1 rfl Try.isAgg43 Try.sizeOf43 rfl rfl rfl (by simp only [behindG, h1, cond_true, cond_false]; try rfl)
  · try (obtain ⟨hw, hf⟩ := orf h1; have hb := writerB_iff.1 hw)
    refine cskip ?_
    refine nthen ?_
    refine cseq ?_
    refine creg ?_
    refine l1 (fa fa43_5 rfl) ?_
    refine l1 (ldc 0 Try.isAgg3 rfl rfl rfl) ?_
    first | refine l1 (addn rfl rfl (ri (by omega) (by omega))) ?_ | refine l1 (add rfl rfl) ?_
    refine l1 (fa fa43_5 rfl) ?_
    refine lsti 0 rfl rfl rfl Try.sizeOf3 (lb rfl) (cs' := encG (bumpSeen g)) rfl ?_
    refine lnil ?_
    refine nthen ?_
    refine cseq ?_
    refine cseq ?_
    refine creg ?_
    refine l1 (mvi rfl) ?_
    refine lnil ?_
    refine nthen ?_
    refine cblock ?_
    refine cseq ?_
    refine creg ?_
    refine l1 (eql rfl rfl) ?_
    refine l1 (asgb rfl) ?_
    refine lnil ?_
    refine nthen ?_
    refine cif rfl (fun h2 => ?_) (fun h2 => ?_)
    · skip
      refine cseq ?_
      refine creg ?_
      refine l1 (mvi rfl) ?_
      refine l1 (fa fa43_0 rfl) ?_
      refine lsti 0 rfl rfl rfl Try.sizeOf3 (lb rfl) (cs' := encG { bumpSeen g with owner := m }) rfl ?_
      refine lnil ?_
      refine nthen ?_
      refine cseq ?_
      refine creg ?_
      refine l1 (ldw 0 Try.isAgg43 Try.sizeOf43 rfl rfl rfl) ?_
      refine lstw 1 rfl rfl rfl Try.sizeOf43 rfl rfl rfl ?_
      refine lnil ?_
      refine nthen ?_
      refine cret ?_
      refine nblkR ?_
      refine nthenR ?_
      exact finc 1 rfl Try.isAgg43 Try.sizeOf43 rfl rfl rfl (by simp only [behindG, h1, h2, cond_true, cond_false]; try rfl)
    · skip
      refine cseq ?_
      refine creg ?_
      refine l1 (eql rfl rfl) ?_
      refine l1 (asgb rfl) ?_
      refine lnil ?_
      refine nthen ?_
      refine cif rfl (fun h3 => ?_) (fun h3 => ?_)
      · skip
        refine cseq ?_
        refine creg ?_
        refine l1 (mvi rfl) ?_
        refine l1 (fa fa43_0 rfl) ?_
        refine lsti 0 rfl rfl rfl Try.sizeOf3 (lb rfl) (cs' := encG { bumpSeen g with owner := n }) rfl ?_
        refine lnil ?_
        refine nthen ?_
        refine creg ?_
        refine l1 (mvi rfl) ?_
        first | refine l1 (subn rfl rfl (ri (by omega) (by omega))) ?_ | refine l1 (sub rfl rfl) ?_
        refine l1 (fa fa43_2 rfl) ?_
        refine l1 (ia ar41 rfl rfl (by omega) (by omega)) ?_
        refine lstb 0 rfl rfl rfl Try.sizeOf4 (by rw [encG_len]; omega) (encG_setM _ _ _ (by omega)) ?_
        refine lnil ?_
        refine nblkN ?_
        refine nthen ?_
        refine cseq ?_
        refine creg ?_
        refine l1 (fa fa43_1 rfl) ?_
        refine l1 (ldc 0 Try.isAgg3 rfl rfl rfl) ?_
        first | refine l1 (addn rfl rfl (ri (by omega) (by omega))) ?_ | refine l1 (add rfl rfl) ?_
        refine l1 (fa fa43_1 rfl) ?_
        refine lsti 0 rfl rfl rfl Try.sizeOf3 (lb rfl) (cs' := encG (bumpEpoch ({ { bumpSeen g with owner := n } with members := ub g.members (n - 1).toNat true }))) rfl ?_
        refine lnil ?_
        refine nthen ?_
        refine cseq ?_
        refine creg ?_
        refine l1 (ldw 0 Try.isAgg43 Try.sizeOf43 rfl rfl rfl) ?_
        refine lstw 1 rfl rfl rfl Try.sizeOf43 rfl rfl rfl ?_
        refine lnil ?_
        refine nthen ?_
        refine cret ?_
        exact finc 1 rfl Try.isAgg43 Try.sizeOf43 rfl rfl rfl (by simp only [behindG, h1, h2, h3, cond_true, cond_false]; try rfl)
      · skip
        refine cseq ?_
        refine creg ?_
        refine l1 (eql rfl rfl) ?_
        refine l1 (asgb rfl) ?_
        refine lnil ?_
        refine nthen ?_
        refine cif rfl (fun h4 => ?_) (fun h4 => ?_)
        · try have hm := formed_writer hf (Or.inl (dt h4))
          refine creg ?_
          refine l1 (mvi rfl) ?_
          first | refine l1 (subn rfl rfl (ri (by omega) (by omega))) ?_ | refine l1 (sub rfl rfl) ?_
          refine l1 (fa fa43_2 rfl) ?_
          refine l1 (ia ar41 rfl rfl (by omega) (by omega)) ?_
          refine lstb 0 rfl rfl rfl Try.sizeOf4 (by rw [encG_len]; omega) (encG_setM _ _ _ (by omega)) ?_
          refine lnil ?_
          refine nblkN ?_
          refine nthen ?_
          refine cseq ?_
          refine creg ?_
          refine l1 (fa fa43_1 rfl) ?_
          refine l1 (ldc 0 Try.isAgg3 rfl rfl rfl) ?_
          first | refine l1 (addn rfl rfl (ri (by omega) (by omega))) ?_ | refine l1 (add rfl rfl) ?_
          refine l1 (fa fa43_1 rfl) ?_
          refine lsti 0 rfl rfl rfl Try.sizeOf3 (lb rfl) (cs' := encG (bumpEpoch ({ bumpSeen g with members := ub g.members (m - 1).toNat true }))) rfl ?_
          refine lnil ?_
          refine nthen ?_
          refine cseq ?_
          refine creg ?_
          refine l1 (ldw 0 Try.isAgg43 Try.sizeOf43 rfl rfl rfl) ?_
          refine lstw 1 rfl rfl rfl Try.sizeOf43 rfl rfl rfl ?_
          refine lnil ?_
          refine nthen ?_
          refine cret ?_
          exact finc 1 rfl Try.isAgg43 Try.sizeOf43 rfl rfl rfl (by simp only [behindG, h1, h2, h3, h4, cond_true, cond_false]; try rfl)
        · try have hm := formed_writer hf (Or.inl (dt h4))
          refine cseq ?_
          refine creg ?_
          refine l1 (eql rfl rfl) ?_
          refine l1 (asgb rfl) ?_
          refine lnil ?_
          refine nthen ?_
          refine cif rfl (fun h5 => ?_) (fun h5 => ?_)
          · try have hm := formed_writer hf (Or.inr (Or.inl (dt h5)))
            refine creg ?_
            refine l1 (mvi rfl) ?_
            first | refine l1 (subn rfl rfl (ri (by omega) (by omega))) ?_ | refine l1 (sub rfl rfl) ?_
            refine l1 (mvi rfl) ?_
            first | refine l1 (subn rfl rfl (ri (by omega) (by omega))) ?_ | refine l1 (sub rfl rfl) ?_
            refine l1 (mvi rfl) ?_
            first | refine l1 (subn rfl rfl (ri (by omega) (by omega))) ?_ | refine l1 (sub rfl rfl) ?_
            refine l1 (mvi rfl) ?_
            refine l1 (fa fa43_2 rfl) ?_
            refine l1 (ia ar41 rfl rfl (by omega) (by omega)) ?_
            refine lstb 0 rfl rfl rfl Try.sizeOf4 (by rw [encG_len]; omega) (encG_setM _ _ _ (by omega)) ?_
            refine l1 (fa fa43_3 rfl) ?_
            refine l1 (ia ar41 rfl rfl (by omega) (by omega)) ?_
            refine lstb 0 rfl rfl rfl Try.sizeOf4 (by rw [encG_len]; omega) (encG_setG _ _ _ (by omega)) ?_
            refine l1 (fa fa43_4 rfl) ?_
            refine l1 (ia ar23 rfl rfl (by omega) (by omega)) ?_
            refine lsti 0 rfl rfl rfl Try.sizeOf22 (by rw [encG_len]; omega) (encG_setC _ _ _ (by omega)) ?_
            refine lnil ?_
            refine nblkN ?_
            refine nthen ?_
            refine cseq ?_
            refine creg ?_
            refine l1 (fa fa43_1 rfl) ?_
            refine l1 (ldc 0 Try.isAgg3 rfl rfl rfl) ?_
            first | refine l1 (addn rfl rfl (ri (by omega) (by omega))) ?_ | refine l1 (add rfl rfl) ?_
            refine l1 (fa fa43_1 rfl) ?_
            refine lsti 0 rfl rfl rfl Try.sizeOf3 (lb rfl) (cs' := encG (bumpEpoch ({ { { bumpSeen g with members := ub g.members (m - 1).toNat false } with gone := ub g.gone (m - 1).toNat true } with cut := ui g.cut (m - 1).toNat cut }))) rfl ?_
            refine lnil ?_
            refine nthen ?_
            refine cseq ?_
            refine creg ?_
            refine l1 (ldw 0 Try.isAgg43 Try.sizeOf43 rfl rfl rfl) ?_
            refine lstw 1 rfl rfl rfl Try.sizeOf43 rfl rfl rfl ?_
            refine lnil ?_
            refine nthen ?_
            refine cret ?_
            exact finc 1 rfl Try.isAgg43 Try.sizeOf43 rfl rfl rfl (by simp only [behindG, h1, h2, h3, h4, h5, cond_true, cond_false]; try rfl)
          · try have hm := formed_writer hf (Or.inr (Or.inl (dt h5)))
            refine cskip ?_
            refine nblkN ?_
            refine nthen ?_
            refine cseq ?_
            refine creg ?_
            refine l1 (fa fa43_1 rfl) ?_
            refine l1 (ldc 0 Try.isAgg3 rfl rfl rfl) ?_
            first | refine l1 (addn rfl rfl (ri (by omega) (by omega))) ?_ | refine l1 (add rfl rfl) ?_
            refine l1 (fa fa43_1 rfl) ?_
            refine lsti 0 rfl rfl rfl Try.sizeOf3 (lb rfl) (cs' := encG (bumpEpoch (bumpSeen g))) rfl ?_
            refine lnil ?_
            refine nthen ?_
            refine cseq ?_
            refine creg ?_
            refine l1 (ldw 0 Try.isAgg43 Try.sizeOf43 rfl rfl rfl) ?_
            refine lstw 1 rfl rfl rfl Try.sizeOf43 rfl rfl rfl ?_
            refine lnil ?_
            refine nthen ?_
            refine cret ?_
            exact finc 1 rfl Try.isAgg43 Try.sizeOf43 rfl rfl rfl (by simp only [behindG, h1, h2, h3, h4, h5, cond_true, cond_false]; try rfl)

theorem rin_calls (m : Nat → Bool) (n : Int) (hn : -9223372036854775808 ≤ n ∧ n ≤ 9223372036854775807) (w : World) : Calls Try.prog 75 #[.agg (barr 6 m).toArray, .int .i64 n] w (Ret (.bool (inB m n)) w) := by
  refine fn_calls (n := 17) Try.func75 rfl rfl (lb rfl) ?_
  refine cseq ?_
  refine creg ?_
  refine lbxa rfl (fun b1 => ?_)
  refine l1 (asgb rfl) ?_
  refine lnil ?_
  refine nthen ?_
  refine cseq ?_
  refine creg ?_
  refine l1 (mvi rfl) ?_
  refine l1 (geq rfl rfl) ?_
  refine l1 (mvb rfl) ?_
  refine l1g rfl (gwt rfl) (fun h => mvi rfl) ?_
  refine l1g rfl (gwt rfl) (fun h => leq (gvt h) rfl) ?_
  refine l1 (pk_and rfl rfl rfl) ?_
  refine l1 (mvb rfl) ?_
  refine l1g rfl (gwt rfl) (fun h => mvi rfl) ?_
  refine l1g rfl (gwt rfl) (fun h => subn (gvt h) rfl (ri (by have := writerB_iff.1 h; omega) (by omega))) ?_
  refine l1g rfl (gwt rfl) (fun h => ia ar41 rfl (gvt h) (by have := writerB_iff.1 h; omega) (by have := writerB_iff.1 h; omega)) ?_
  refine l1g rfl (gwt rfl) (fun h => ldc 0 Try.isAgg4 rfl (gvt h) (barr_get m _ (by have := writerB_iff.1 h; omega))) ?_
  refine l1 (pk_and rfl rfl rfl) ?_
  refine l1 (asgb rfl) ?_
  refine lnil ?_
  refine nthen ?_
  refine cret ?_
  exact fin1 rfl rfl

theorem wrong_calls (n op m : Int) (w : World) : Calls Try.prog 74 #[.int .i64 n, .int .i64 op, .int .i64 m] w (Ret (.bool (wrongB n op m)) w) := by
  refine fn_calls (n := 51) Try.func74 rfl rfl (lb rfl) ?_
  refine cseq ?_
  refine creg ?_
  refine l1 (asgb rfl) ?_
  refine lnil ?_
  refine nthen ?_
  refine cseq ?_
  refine creg ?_
  refine l1 (mvi rfl) ?_
  refine l1 (eql rfl rfl) ?_
  refine l1 (mvb rfl) ?_
  refine l1g rfl (gwf rfl) (fun h => mvi rfl) ?_
  refine l1g rfl (gwf rfl) (fun h => eql (gvt h) rfl) ?_
  refine l1 (pk_or rfl rfl rfl) ?_
  refine l1 (mvb rfl) ?_
  refine l1g rfl (gwf rfl) (fun h => mvi rfl) ?_
  refine l1g rfl (gwf rfl) (fun h => eql (gvt h) rfl) ?_
  refine l1 (pk_or rfl rfl rfl) ?_
  refine l1 (asgb rfl) ?_
  refine lnil ?_
  refine nthen ?_
  refine cseq ?_
  refine creg ?_
  refine l1 (mvi rfl) ?_
  refine l1 (lss rfl rfl) ?_
  refine l1 (mvb rfl) ?_
  refine l1g rfl (gwf rfl) (fun h => mvi rfl) ?_
  refine l1g rfl (gwf rfl) (fun h => gtr (gvt h) rfl) ?_
  refine l1 (pk_or rfl rfl rfl) ?_
  refine l1 (mvb rfl) ?_
  refine l1g rfl (gwf rfl) (fun h => mvi rfl) ?_
  refine l1g rfl (gwf rfl) (fun h => lss (gvt h) rfl) ?_
  refine l1 (pk_or rfl rfl rfl) ?_
  refine l1 (mvb rfl) ?_
  refine l1g rfl (gwf rfl) (fun h => mvi rfl) ?_
  refine l1g rfl (gwf rfl) (fun h => gtr (gvt h) rfl) ?_
  refine l1 (pk_or rfl rfl rfl) ?_
  refine l1 (mvb rfl) ?_
  refine l1g rfl (gwf rfl) (fun h => mvb rfl) ?_
  refine l1g rfl (gwf rfl) (fun h => mvb (gvt h)) ?_
  refine l1g rfl (ggt rfl) (fun h => mvi rfl) ?_
  refine l1g rfl (ggt rfl) (fun h => lss (gvt h) rfl) ?_
  refine l1g rfl (ggt rfl) (fun h => mvb (gvt h)) ?_
  refine l1g rfl (ggf rfl) (fun h => mvi rfl) ?_
  refine l1g rfl (ggf rfl) (fun h => gtr (gvt h) rfl) ?_
  refine l1g rfl (ggt rfl) (fun h => pk_or (gvt h) rfl (gva h)) ?_
  refine l1g rfl (gwf rfl) (fun h => pk_and (gvt h) (gva h) rfl) ?_
  refine l1 (pk_or rfl rfl rfl) ?_
  refine l1 (mvb rfl) ?_
  refine l1g rfl (gwf rfl) (fun h => mvb rfl) ?_
  refine l1g rfl (gwf rfl) (fun h => nt (gvt h)) ?_
  refine l1g rfl (gwf rfl) (fun h => mvb (gvt h)) ?_
  refine l1g rfl (ggt rfl) (fun h => mvi rfl) ?_
  refine l1g rfl (ggt rfl) (fun h => neq (gvt h) rfl) ?_
  refine l1g rfl (gwf rfl) (fun h => pk_and (gvt h) (gva h) rfl) ?_
  refine l1 (pk_or rfl rfl rfl) ?_
  refine l1 (asgb rfl) ?_
  refine lnil ?_
  refine nthen ?_
  refine cret ?_
  exact fin1 rfl rfl

theorem rmay_calls (g : Grp) (n op m : Int) (hm : -9223372036854775808 ≤ m ∧ m ≤ 9223372036854775807) (w : World) : Calls Try.prog 36 #[.agg (encG g).toArray, .int .i64 n, .int .i64 op, .int .i64 m] w (Ret (.int .i64 (rmayI g n op m)) w) := by
  refine fn_calls (n := 78) Try.func36 rfl rfl (lb rfl) ?_
  refine cseq ?_
  refine creg ?_
  refine lbxa rfl (fun b1 => ?_)
  refine l1 (asgi rfl) ?_
  refine lnil ?_
  refine nthen ?_
  refine cseq ?_
  refine cseq ?_
  refine creg ?_
  refine l1 (mvi rfl) ?_
  refine l1 (mvi rfl) ?_
  refine l1 (mvi rfl) ?_
  refine l1 (cl hb74 rfl (mc rfl (mc rfl (mc rfl mn))) (fun w hw => wrong_calls _ _ _ w)) ?_
  refine lnil ?_
  refine nthen ?_
  refine cif rfl (fun h1 => ?_) (fun h1 => ?_)
  · skip
    refine cseq ?_
    refine creg ?_
    refine l1 (asgi rfl) ?_
    refine lnil ?_
    refine nthen ?_
    refine cret ?_
    refine nthenR ?_
    exact fin1i rfl rfl (by first | rfl | (simp only [rmayI, h1, cond_true, cond_false]; done))
  · skip
    refine cskip ?_
    refine nthen ?_
    refine cseq ?_
    refine creg ?_
    refine l1 (mvi rfl) ?_
    refine l1 (eql rfl rfl) ?_
    refine l1 (mvb rfl) ?_
    refine l1g rfl (gwt rfl) (fun h => fa fa43_0 rfl) ?_
    refine l1g rfl (gwt rfl) (fun h => ldc 0 Try.isAgg3 rfl (gvt h) rfl) ?_
    refine l1g rfl (gwt rfl) (fun h => neq (gvt h) rfl) ?_
    refine l1 (pk_and rfl rfl rfl) ?_
    refine l1 (mvb rfl) ?_
    refine l1g rfl (gwf rfl) (fun h => mvi rfl) ?_
    refine l1g rfl (gwf rfl) (fun h => neq (gvt h) rfl) ?_
    refine l1g rfl (gwf rfl) (fun h => mvb (gvt h)) ?_
    refine l1g rfl (ggt rfl) (fun h => fa fa43_0 rfl) ?_
    refine l1g rfl (ggt rfl) (fun h => ldc 0 Try.isAgg3 rfl (gvt h) rfl) ?_
    refine l1g rfl (ggt rfl) (fun h => mvi rfl) ?_
    refine l1g rfl (ggt rfl) (fun h => neq (gvt h) (gvt h)) ?_
    refine l1g rfl (gwf rfl) (fun h => pk_and (gvt h) (gva h) rfl) ?_
    refine l1 (pk_or rfl rfl rfl) ?_
    refine l1 (asgb rfl) ?_
    refine lnil ?_
    refine nthen ?_
    refine cseq ?_
    refine creg ?_
    refine l1 (mvb rfl) ?_
    refine l1 (mvb rfl) ?_
    refine l1g rfl (gwf rfl) (fun h => mvi rfl) ?_
    refine l1g rfl (gwf rfl) (fun h => eql (gvt h) rfl) ?_
    refine l1g rfl (gwf rfl) (fun h => mvb (gvt h)) ?_
    refine l1g rfl (ggt rfl) (fun h => fa fa43_2 rfl) ?_
    refine l1g rfl (ggt rfl) (fun h => lda (vs := barr 6 g.members) 0 Try.isAgg41 Try.sizeOf41 rfl (gvt h) rfl rfl) ?_
    refine l1g rfl (ggt rfl) (fun h => mvi rfl) ?_
    refine l1g rfl (ggt rfl) (fun h => cl hb75 rfl (mc (gvt h) (mc (gvt h) mn)) (fun w hw => rin_calls _ _ (by omega) w)) ?_
    refine l1g rfl (ggt rfl) (fun h => mvb (gvt h)) ?_
    refine l1g rfl (ggf rfl) (fun h => fa fa43_3 rfl) ?_
    refine l1g rfl (ggf rfl) (fun h => lda (vs := barr 6 g.gone) 0 Try.isAgg41 Try.sizeOf41 rfl (gvt h) rfl rfl) ?_
    refine l1g rfl (ggf rfl) (fun h => mvi rfl) ?_
    refine l1g rfl (ggf rfl) (fun h => cl hb75 rfl (mc (gvt h) (mc (gvt h) mn)) (fun w hw => rin_calls _ _ (by omega) w)) ?_
    refine l1g rfl (ggt rfl) (fun h => pk_or (gvt h) rfl (gva h)) ?_
    refine l1g rfl (gwf rfl) (fun h => pk_and (gvt h) (gva h) rfl) ?_
    refine l1 (pk_or rfl rfl rfl) ?_
    refine l1 (asgb rfl) ?_
    refine lnil ?_
    refine nthen ?_
    refine cseq ?_
    refine creg ?_
    refine l1 (mvb rfl) ?_
    refine l1 (mvb rfl) ?_
    refine l1g rfl (gwf rfl) (fun h => mvi rfl) ?_
    refine l1g rfl (gwf rfl) (fun h => eql (gvt h) rfl) ?_
    refine l1g rfl (gwf rfl) (fun h => mvb (gvt h)) ?_
    refine l1g rfl (ggf rfl) (fun h => mvi rfl) ?_
    refine l1g rfl (ggf rfl) (fun h => eql (gvt h) rfl) ?_
    refine l1g rfl (gwf rfl) (fun h => pk_or (gvt h) rfl (gva h)) ?_
    refine l1g rfl (gwf rfl) (fun h => mvb (gvt h)) ?_
    refine l1g rfl (ggt rfl) (fun h => fa fa43_2 rfl) ?_
    refine l1g rfl (ggt rfl) (fun h => lda (vs := barr 6 g.members) 0 Try.isAgg41 Try.sizeOf41 rfl (gvt h) rfl rfl) ?_
    refine l1g rfl (ggt rfl) (fun h => mvi rfl) ?_
    refine l1g rfl (ggt rfl) (fun h => cl hb75 rfl (mc (gvt h) (mc (gvt h) mn)) (fun w hw => rin_calls _ _ (by omega) w)) ?_
    refine l1g rfl (ggt rfl) (fun h => nt (gvt h)) ?_
    refine l1g rfl (ggt rfl) (fun h => mvb (gvt h)) ?_
    refine l1g rfl (ggf rfl) (fun h => mvi rfl) ?_
    refine l1g rfl (ggf rfl) (fun h => fa fa43_0 rfl) ?_
    refine l1g rfl (ggf rfl) (fun h => ldc 0 Try.isAgg3 rfl (gvt h) rfl) ?_
    refine l1g rfl (ggf rfl) (fun h => eql (gvt h) (gvt h)) ?_
    refine l1g rfl (ggt rfl) (fun h => pk_or (gvt h) rfl (gva h)) ?_
    refine l1g rfl (gwf rfl) (fun h => pk_and (gvt h) (gva h) rfl) ?_
    refine l1 (pk_or rfl rfl rfl) ?_
    refine l1 (asgb rfl) ?_
    refine lnil ?_
    refine nthen ?_
    refine cseq ?_
    refine cseq ?_
    refine creg ?_
    refine l1 (mvb rfl) ?_
    refine lnil ?_
    refine nthen ?_
    refine cif rfl (fun h2 => ?_) (fun h2 => ?_)
    · change badB g n op m = _ at h2
      refine cseq ?_
      refine creg ?_
      refine l1 (asgi rfl) ?_
      refine lnil ?_
      refine nthen ?_
      refine cret ?_
      refine nthenR ?_
      exact fin1i rfl rfl (by first | rfl | (simp only [rmayI, h1, h2, cond_true, cond_false]; done))
    · change badB g n op m = _ at h2
      refine cskip ?_
      refine nthen ?_
      refine cseq ?_
      refine cseq ?_
      refine creg ?_
      refine l1 (mvi rfl) ?_
      refine l1 (neq rfl rfl) ?_
      refine l1 (mvb rfl) ?_
      refine l1g rfl (gwt rfl) (fun h => fa fa43_1 rfl) ?_
      refine l1g rfl (gwt rfl) (fun h => ldc 0 Try.isAgg3 rfl (gvt h) rfl) ?_
      refine l1g rfl (gwt rfl) (fun h => geq (gvt h) rfl) ?_
      refine l1 (pk_and rfl rfl rfl) ?_
      refine lnil ?_
      refine nthen ?_
      refine cif rfl (fun h3 => ?_) (fun h3 => ?_)
      · skip
        refine cseq ?_
        refine creg ?_
        refine l1 (asgi rfl) ?_
        refine lnil ?_
        refine nthen ?_
        refine cret ?_
        refine nthenR ?_
        exact fin1i rfl rfl (by first | rfl | (simp only [rmayI, h1, h2, h3, cond_true, cond_false]; done))
      · skip
        refine cskip ?_
        refine nthen ?_
        refine cseq ?_
        refine creg ?_
        refine l1 (asgi rfl) ?_
        refine lnil ?_
        refine nthen ?_
        refine cret ?_
        exact fin1i rfl rfl (by first | rfl | (simp only [rmayI, h1, h2, h3, cond_true, cond_false]; done))

theorem rbehind1_calls (g : Grp) (n m cut : Int) (hw : wrongB n 1 m = false) (hb : 1 ≤ n ∧ n ≤ 6) (w : World) : Calls Try.prog 37 #[.agg (encG g).toArray, .int .i64 n, .int .i64 1, .int .i64 m, .int .u64 cut] w (Ret (.agg (encG (behindG g n 1 m cut)).toArray) w) := by
  refine fn_calls (n := 62) Try.func37 rfl rfl (lb rfl) ?_
  refine cseq ?_
  refine creg ?_
  refine lbxa rfl (fun b1 => ?_)
  refine lal Try.zeroValue43 rfl (fun b2 => ?_)
  refine lnil ?_
  refine nthen ?_
  refine cseq ?_
  refine cseq ?_
  refine creg ?_
  refine l1 (mvi rfl) ?_
  refine l1 (mvi rfl) ?_
  refine l1 (mvi rfl) ?_
  refine l1 (cl hb74 rfl (mc rfl (mc rfl (mc rfl mn))) (fun w hw => wrong_calls _ _ _ w)) ?_
  refine lnil ?_
  refine nthen ?_
  refine ciff (bf rfl hw) ?_
  refine cskip ?_
  refine nthen ?_
  refine cseq ?_
  refine creg ?_
  refine l1 (ldw 0 Try.isAgg43 Try.sizeOf43 rfl rfl rfl) ?_
  refine lal Try.zeroValue43 rfl (fun b3 => ?_)
  refine lstw 2 rfl rfl rfl Try.sizeOf43 rfl rfl rfl ?_
  refine lnil ?_
  refine nthen ?_
  refine cseq ?_
  refine creg ?_
  refine l1 (fa fa43_5 rfl) ?_
  refine l1 (ldc 0 Try.isAgg3 rfl rfl rfl) ?_
  first | refine l1 (addn rfl rfl (ri (by omega) (by omega))) ?_ | refine l1 (add rfl rfl) ?_
  refine l1 (fa fa43_5 rfl) ?_
  refine lsti 2 rfl rfl rfl Try.sizeOf3 (lb rfl) (cs' := encG (bumpSeen g)) rfl ?_
  refine lnil ?_
  refine nthen ?_
  refine cseq ?_
  refine cseq ?_
  refine creg ?_
  refine l1 (mvi rfl) ?_
  refine l1 (neq rfl rfl) ?_
  refine lnil ?_
  refine nthen ?_
  refine cift rfl ?_
  refine creg ?_
  refine l1 (fa fa43_1 rfl) ?_
  refine l1 (ldc 0 Try.isAgg3 rfl rfl rfl) ?_
  first | refine l1 (addn rfl rfl (ri (by omega) (by omega))) ?_ | refine l1 (add rfl rfl) ?_
  refine l1 (fa fa43_1 rfl) ?_
  refine lsti 2 rfl rfl rfl Try.sizeOf3 (lb rfl) (cs' := encG (bumpEpoch (bumpSeen g))) rfl ?_
  refine lnil ?_
  refine nthen ?_
  refine cseq ?_
  refine cseq ?_
  refine creg ?_
  refine l1 (mvi rfl) ?_
  refine l1 (eql rfl rfl) ?_
  refine lnil ?_
  refine nthen ?_
  refine cift rfl ?_
  refine cseq ?_
  refine creg ?_
  refine l1 (mvi rfl) ?_
  refine l1 (fa fa43_0 rfl) ?_
  refine lsti 2 rfl rfl rfl Try.sizeOf3 (lb rfl) (cs' := encG ({ bumpEpoch (bumpSeen g) with owner := n })) rfl ?_
  refine lnil ?_
  refine nthen ?_
  refine creg ?_
  refine l1 (mvi rfl) ?_
  first | refine l1 (subn rfl rfl (ri (by omega) (by omega))) ?_ | refine l1 (sub rfl rfl) ?_
  refine l1 (fa fa43_2 rfl) ?_
  refine l1 (ia ar41 rfl rfl (by omega) (by omega)) ?_
  refine lstb 2 rfl rfl rfl Try.sizeOf4 (by rw [encG_len]; omega) (encG_setM _ _ _ (by omega)) ?_
  refine lnil ?_
  refine nthen ?_
  refine cseq ?_
  refine cseq ?_
  refine creg ?_
  refine l1 (mvi rfl) ?_
  refine l1 (eql rfl rfl) ?_
  refine lnil ?_
  refine nthen ?_
  refine ciff rfl ?_
  refine cskip ?_
  refine nthen ?_
  refine cseq ?_
  refine cseq ?_
  refine creg ?_
  refine l1 (mvi rfl) ?_
  refine l1 (eql rfl rfl) ?_
  refine lnil ?_
  refine nthen ?_
  refine ciff rfl ?_
  refine cskip ?_
  refine nthen ?_
  refine cseq ?_
  refine cseq ?_
  refine creg ?_
  refine l1 (mvi rfl) ?_
  refine l1 (eql rfl rfl) ?_
  refine lnil ?_
  refine nthen ?_
  refine ciff rfl ?_
  refine cskip ?_
  refine nthen ?_
  refine cseq ?_
  refine creg ?_
  refine l1 (ldw 2 Try.isAgg43 Try.sizeOf43 rfl rfl rfl) ?_
  refine lstw 1 rfl rfl rfl Try.sizeOf43 rfl rfl rfl ?_
  refine lnil ?_
  refine nthen ?_
  refine cret ?_
  exact finc 1 rfl Try.isAgg43 Try.sizeOf43 rfl rfl rfl (by rw [behind1 hw]; try rfl)

theorem rbehind2_calls (g : Grp) (n m cut : Int) (hw : wrongB n 2 m = false) (hb : 1 ≤ n ∧ n ≤ 6) (hm : 1 ≤ m ∧ m ≤ 6) (w : World) : Calls Try.prog 37 #[.agg (encG g).toArray, .int .i64 n, .int .i64 2, .int .i64 m, .int .u64 cut] w (Ret (.agg (encG (behindG g n 2 m cut)).toArray) w) := by
  refine fn_calls (n := 62) Try.func37 rfl rfl (lb rfl) ?_
  refine cseq ?_
  refine creg ?_
  refine lbxa rfl (fun b1 => ?_)
  refine lal Try.zeroValue43 rfl (fun b2 => ?_)
  refine lnil ?_
  refine nthen ?_
  refine cseq ?_
  refine cseq ?_
  refine creg ?_
  refine l1 (mvi rfl) ?_
  refine l1 (mvi rfl) ?_
  refine l1 (mvi rfl) ?_
  refine l1 (cl hb74 rfl (mc rfl (mc rfl (mc rfl mn))) (fun w hw => wrong_calls _ _ _ w)) ?_
  refine lnil ?_
  refine nthen ?_
  refine ciff (bf rfl hw) ?_
  refine cskip ?_
  refine nthen ?_
  refine cseq ?_
  refine creg ?_
  refine l1 (ldw 0 Try.isAgg43 Try.sizeOf43 rfl rfl rfl) ?_
  refine lal Try.zeroValue43 rfl (fun b3 => ?_)
  refine lstw 2 rfl rfl rfl Try.sizeOf43 rfl rfl rfl ?_
  refine lnil ?_
  refine nthen ?_
  refine cseq ?_
  refine creg ?_
  refine l1 (fa fa43_5 rfl) ?_
  refine l1 (ldc 0 Try.isAgg3 rfl rfl rfl) ?_
  first | refine l1 (addn rfl rfl (ri (by omega) (by omega))) ?_ | refine l1 (add rfl rfl) ?_
  refine l1 (fa fa43_5 rfl) ?_
  refine lsti 2 rfl rfl rfl Try.sizeOf3 (lb rfl) (cs' := encG (bumpSeen g)) rfl ?_
  refine lnil ?_
  refine nthen ?_
  refine cseq ?_
  refine cseq ?_
  refine creg ?_
  refine l1 (mvi rfl) ?_
  refine l1 (neq rfl rfl) ?_
  refine lnil ?_
  refine nthen ?_
  refine cift rfl ?_
  refine creg ?_
  refine l1 (fa fa43_1 rfl) ?_
  refine l1 (ldc 0 Try.isAgg3 rfl rfl rfl) ?_
  first | refine l1 (addn rfl rfl (ri (by omega) (by omega))) ?_ | refine l1 (add rfl rfl) ?_
  refine l1 (fa fa43_1 rfl) ?_
  refine lsti 2 rfl rfl rfl Try.sizeOf3 (lb rfl) (cs' := encG (bumpEpoch (bumpSeen g))) rfl ?_
  refine lnil ?_
  refine nthen ?_
  refine cseq ?_
  refine cseq ?_
  refine creg ?_
  refine l1 (mvi rfl) ?_
  refine l1 (eql rfl rfl) ?_
  refine lnil ?_
  refine nthen ?_
  refine ciff rfl ?_
  refine cskip ?_
  refine nthen ?_
  refine cseq ?_
  refine cseq ?_
  refine creg ?_
  refine l1 (mvi rfl) ?_
  refine l1 (eql rfl rfl) ?_
  refine lnil ?_
  refine nthen ?_
  refine cift rfl ?_
  refine creg ?_
  refine l1 (mvi rfl) ?_
  first | refine l1 (subn rfl rfl (ri (by omega) (by omega))) ?_ | refine l1 (sub rfl rfl) ?_
  refine l1 (fa fa43_2 rfl) ?_
  refine l1 (ia ar41 rfl rfl (by omega) (by omega)) ?_
  refine lstb 2 rfl rfl rfl Try.sizeOf4 (by rw [encG_len]; omega) (encG_setM _ _ _ (by omega)) ?_
  refine lnil ?_
  refine nthen ?_
  refine cseq ?_
  refine cseq ?_
  refine creg ?_
  refine l1 (mvi rfl) ?_
  refine l1 (eql rfl rfl) ?_
  refine lnil ?_
  refine nthen ?_
  refine ciff rfl ?_
  refine cskip ?_
  refine nthen ?_
  refine cseq ?_
  refine cseq ?_
  refine creg ?_
  refine l1 (mvi rfl) ?_
  refine l1 (eql rfl rfl) ?_
  refine lnil ?_
  refine nthen ?_
  refine ciff rfl ?_
  refine cskip ?_
  refine nthen ?_
  refine cseq ?_
  refine creg ?_
  refine l1 (ldw 2 Try.isAgg43 Try.sizeOf43 rfl rfl rfl) ?_
  refine lstw 1 rfl rfl rfl Try.sizeOf43 rfl rfl rfl ?_
  refine lnil ?_
  refine nthen ?_
  refine cret ?_
  exact finc 1 rfl Try.isAgg43 Try.sizeOf43 rfl rfl rfl (by rw [behind2 hw]; try rfl)

theorem rbehind3_calls (g : Grp) (n m cut : Int) (hw : wrongB n 3 m = false) (hb : 1 ≤ n ∧ n ≤ 6) (hm : 1 ≤ m ∧ m ≤ 6) (w : World) : Calls Try.prog 37 #[.agg (encG g).toArray, .int .i64 n, .int .i64 3, .int .i64 m, .int .u64 cut] w (Ret (.agg (encG (behindG g n 3 m cut)).toArray) w) := by
  refine fn_calls (n := 62) Try.func37 rfl rfl (lb rfl) ?_
  refine cseq ?_
  refine creg ?_
  refine lbxa rfl (fun b1 => ?_)
  refine lal Try.zeroValue43 rfl (fun b2 => ?_)
  refine lnil ?_
  refine nthen ?_
  refine cseq ?_
  refine cseq ?_
  refine creg ?_
  refine l1 (mvi rfl) ?_
  refine l1 (mvi rfl) ?_
  refine l1 (mvi rfl) ?_
  refine l1 (cl hb74 rfl (mc rfl (mc rfl (mc rfl mn))) (fun w hw => wrong_calls _ _ _ w)) ?_
  refine lnil ?_
  refine nthen ?_
  refine ciff (bf rfl hw) ?_
  refine cskip ?_
  refine nthen ?_
  refine cseq ?_
  refine creg ?_
  refine l1 (ldw 0 Try.isAgg43 Try.sizeOf43 rfl rfl rfl) ?_
  refine lal Try.zeroValue43 rfl (fun b3 => ?_)
  refine lstw 2 rfl rfl rfl Try.sizeOf43 rfl rfl rfl ?_
  refine lnil ?_
  refine nthen ?_
  refine cseq ?_
  refine creg ?_
  refine l1 (fa fa43_5 rfl) ?_
  refine l1 (ldc 0 Try.isAgg3 rfl rfl rfl) ?_
  first | refine l1 (addn rfl rfl (ri (by omega) (by omega))) ?_ | refine l1 (add rfl rfl) ?_
  refine l1 (fa fa43_5 rfl) ?_
  refine lsti 2 rfl rfl rfl Try.sizeOf3 (lb rfl) (cs' := encG (bumpSeen g)) rfl ?_
  refine lnil ?_
  refine nthen ?_
  refine cseq ?_
  refine cseq ?_
  refine creg ?_
  refine l1 (mvi rfl) ?_
  refine l1 (neq rfl rfl) ?_
  refine lnil ?_
  refine nthen ?_
  refine cift rfl ?_
  refine creg ?_
  refine l1 (fa fa43_1 rfl) ?_
  refine l1 (ldc 0 Try.isAgg3 rfl rfl rfl) ?_
  first | refine l1 (addn rfl rfl (ri (by omega) (by omega))) ?_ | refine l1 (add rfl rfl) ?_
  refine l1 (fa fa43_1 rfl) ?_
  refine lsti 2 rfl rfl rfl Try.sizeOf3 (lb rfl) (cs' := encG (bumpEpoch (bumpSeen g))) rfl ?_
  refine lnil ?_
  refine nthen ?_
  refine cseq ?_
  refine cseq ?_
  refine creg ?_
  refine l1 (mvi rfl) ?_
  refine l1 (eql rfl rfl) ?_
  refine lnil ?_
  refine nthen ?_
  refine ciff rfl ?_
  refine cskip ?_
  refine nthen ?_
  refine cseq ?_
  refine cseq ?_
  refine creg ?_
  refine l1 (mvi rfl) ?_
  refine l1 (eql rfl rfl) ?_
  refine lnil ?_
  refine nthen ?_
  refine ciff rfl ?_
  refine cskip ?_
  refine nthen ?_
  refine cseq ?_
  refine cseq ?_
  refine creg ?_
  refine l1 (mvi rfl) ?_
  refine l1 (eql rfl rfl) ?_
  refine lnil ?_
  refine nthen ?_
  refine cift rfl ?_
  refine cseq ?_
  refine creg ?_
  refine l1 (mvi rfl) ?_
  first | refine l1 (subn rfl rfl (ri (by omega) (by omega))) ?_ | refine l1 (sub rfl rfl) ?_
  refine l1 (fa fa43_2 rfl) ?_
  refine l1 (ia ar41 rfl rfl (by omega) (by omega)) ?_
  refine lstb 2 rfl rfl rfl Try.sizeOf4 (by rw [encG_len]; omega) (encG_setM _ _ _ (by omega)) ?_
  refine lnil ?_
  refine nthen ?_
  refine cseq ?_
  refine creg ?_
  refine l1 (mvi rfl) ?_
  first | refine l1 (subn rfl rfl (ri (by omega) (by omega))) ?_ | refine l1 (sub rfl rfl) ?_
  refine l1 (fa fa43_3 rfl) ?_
  refine l1 (ia ar41 rfl rfl (by omega) (by omega)) ?_
  refine lstb 2 rfl rfl rfl Try.sizeOf4 (by rw [encG_len]; omega) (encG_setG _ _ _ (by omega)) ?_
  refine lnil ?_
  refine nthen ?_
  refine creg ?_
  refine l1 (mvi rfl) ?_
  first | refine l1 (subn rfl rfl (ri (by omega) (by omega))) ?_ | refine l1 (sub rfl rfl) ?_
  refine l1 (mvi rfl) ?_
  refine l1 (fa fa43_4 rfl) ?_
  refine l1 (ia ar23 rfl rfl (by omega) (by omega)) ?_
  refine lsti 2 rfl rfl rfl Try.sizeOf22 (by rw [encG_len]; omega) (encG_setC _ _ _ (by omega)) ?_
  refine lnil ?_
  refine nthen ?_
  refine cseq ?_
  refine cseq ?_
  refine creg ?_
  refine l1 (mvi rfl) ?_
  refine l1 (eql rfl rfl) ?_
  refine lnil ?_
  refine nthen ?_
  refine ciff rfl ?_
  refine cskip ?_
  refine nthen ?_
  refine cseq ?_
  refine creg ?_
  refine l1 (ldw 2 Try.isAgg43 Try.sizeOf43 rfl rfl rfl) ?_
  refine lstw 1 rfl rfl rfl Try.sizeOf43 rfl rfl rfl ?_
  refine lnil ?_
  refine nthen ?_
  refine cret ?_
  exact finc 1 rfl Try.isAgg43 Try.sizeOf43 rfl rfl rfl (by rw [behind3 hw]; try rfl)

theorem rbehind4_calls (g : Grp) (n m cut : Int) (hw : wrongB n 4 m = false) (hb : 1 ≤ n ∧ n ≤ 6) (w : World) : Calls Try.prog 37 #[.agg (encG g).toArray, .int .i64 n, .int .i64 4, .int .i64 m, .int .u64 cut] w (Ret (.agg (encG (behindG g n 4 m cut)).toArray) w) := by
  refine fn_calls (n := 62) Try.func37 rfl rfl (lb rfl) ?_
  refine cseq ?_
  refine creg ?_
  refine lbxa rfl (fun b1 => ?_)
  refine lal Try.zeroValue43 rfl (fun b2 => ?_)
  refine lnil ?_
  refine nthen ?_
  refine cseq ?_
  refine cseq ?_
  refine creg ?_
  refine l1 (mvi rfl) ?_
  refine l1 (mvi rfl) ?_
  refine l1 (mvi rfl) ?_
  refine l1 (cl hb74 rfl (mc rfl (mc rfl (mc rfl mn))) (fun w hw => wrong_calls _ _ _ w)) ?_
  refine lnil ?_
  refine nthen ?_
  refine ciff (bf rfl hw) ?_
  refine cskip ?_
  refine nthen ?_
  refine cseq ?_
  refine creg ?_
  refine l1 (ldw 0 Try.isAgg43 Try.sizeOf43 rfl rfl rfl) ?_
  refine lal Try.zeroValue43 rfl (fun b3 => ?_)
  refine lstw 2 rfl rfl rfl Try.sizeOf43 rfl rfl rfl ?_
  refine lnil ?_
  refine nthen ?_
  refine cseq ?_
  refine creg ?_
  refine l1 (fa fa43_5 rfl) ?_
  refine l1 (ldc 0 Try.isAgg3 rfl rfl rfl) ?_
  first | refine l1 (addn rfl rfl (ri (by omega) (by omega))) ?_ | refine l1 (add rfl rfl) ?_
  refine l1 (fa fa43_5 rfl) ?_
  refine lsti 2 rfl rfl rfl Try.sizeOf3 (lb rfl) (cs' := encG (bumpSeen g)) rfl ?_
  refine lnil ?_
  refine nthen ?_
  refine cseq ?_
  refine cseq ?_
  refine creg ?_
  refine l1 (mvi rfl) ?_
  refine l1 (neq rfl rfl) ?_
  refine lnil ?_
  refine nthen ?_
  refine cift rfl ?_
  refine creg ?_
  refine l1 (fa fa43_1 rfl) ?_
  refine l1 (ldc 0 Try.isAgg3 rfl rfl rfl) ?_
  first | refine l1 (addn rfl rfl (ri (by omega) (by omega))) ?_ | refine l1 (add rfl rfl) ?_
  refine l1 (fa fa43_1 rfl) ?_
  refine lsti 2 rfl rfl rfl Try.sizeOf3 (lb rfl) (cs' := encG (bumpEpoch (bumpSeen g))) rfl ?_
  refine lnil ?_
  refine nthen ?_
  refine cseq ?_
  refine cseq ?_
  refine creg ?_
  refine l1 (mvi rfl) ?_
  refine l1 (eql rfl rfl) ?_
  refine lnil ?_
  refine nthen ?_
  refine ciff rfl ?_
  refine cskip ?_
  refine nthen ?_
  refine cseq ?_
  refine cseq ?_
  refine creg ?_
  refine l1 (mvi rfl) ?_
  refine l1 (eql rfl rfl) ?_
  refine lnil ?_
  refine nthen ?_
  refine ciff rfl ?_
  refine cskip ?_
  refine nthen ?_
  refine cseq ?_
  refine cseq ?_
  refine creg ?_
  refine l1 (mvi rfl) ?_
  refine l1 (eql rfl rfl) ?_
  refine lnil ?_
  refine nthen ?_
  refine ciff rfl ?_
  refine cskip ?_
  refine nthen ?_
  refine cseq ?_
  refine cseq ?_
  refine creg ?_
  refine l1 (mvi rfl) ?_
  refine l1 (eql rfl rfl) ?_
  refine lnil ?_
  refine nthen ?_
  refine ciff rfl ?_
  refine cskip ?_
  refine nthen ?_
  refine cseq ?_
  refine creg ?_
  refine l1 (ldw 2 Try.isAgg43 Try.sizeOf43 rfl rfl rfl) ?_
  refine lstw 1 rfl rfl rfl Try.sizeOf43 rfl rfl rfl ?_
  refine lnil ?_
  refine nthen ?_
  refine cret ?_
  exact finc 1 rfl Try.isAgg43 Try.sizeOf43 rfl rfl rfl (by rw [behind4 hw]; try rfl)

theorem rbehind5_calls (g : Grp) (n m cut : Int) (hw : wrongB n 5 m = false) (hb : 1 ≤ n ∧ n ≤ 6) (w : World) : Calls Try.prog 37 #[.agg (encG g).toArray, .int .i64 n, .int .i64 5, .int .i64 m, .int .u64 cut] w (Ret (.agg (encG (behindG g n 5 m cut)).toArray) w) := by
  refine fn_calls (n := 62) Try.func37 rfl rfl (lb rfl) ?_
  refine cseq ?_
  refine creg ?_
  refine lbxa rfl (fun b1 => ?_)
  refine lal Try.zeroValue43 rfl (fun b2 => ?_)
  refine lnil ?_
  refine nthen ?_
  refine cseq ?_
  refine cseq ?_
  refine creg ?_
  refine l1 (mvi rfl) ?_
  refine l1 (mvi rfl) ?_
  refine l1 (mvi rfl) ?_
  refine l1 (cl hb74 rfl (mc rfl (mc rfl (mc rfl mn))) (fun w hw => wrong_calls _ _ _ w)) ?_
  refine lnil ?_
  refine nthen ?_
  refine ciff (bf rfl hw) ?_
  refine cskip ?_
  refine nthen ?_
  refine cseq ?_
  refine creg ?_
  refine l1 (ldw 0 Try.isAgg43 Try.sizeOf43 rfl rfl rfl) ?_
  refine lal Try.zeroValue43 rfl (fun b3 => ?_)
  refine lstw 2 rfl rfl rfl Try.sizeOf43 rfl rfl rfl ?_
  refine lnil ?_
  refine nthen ?_
  refine cseq ?_
  refine creg ?_
  refine l1 (fa fa43_5 rfl) ?_
  refine l1 (ldc 0 Try.isAgg3 rfl rfl rfl) ?_
  first | refine l1 (addn rfl rfl (ri (by omega) (by omega))) ?_ | refine l1 (add rfl rfl) ?_
  refine l1 (fa fa43_5 rfl) ?_
  refine lsti 2 rfl rfl rfl Try.sizeOf3 (lb rfl) (cs' := encG (bumpSeen g)) rfl ?_
  refine lnil ?_
  refine nthen ?_
  refine cseq ?_
  refine cseq ?_
  refine creg ?_
  refine l1 (mvi rfl) ?_
  refine l1 (neq rfl rfl) ?_
  refine lnil ?_
  refine nthen ?_
  refine ciff rfl ?_
  refine cskip ?_
  refine nthen ?_
  refine cseq ?_
  refine cseq ?_
  refine creg ?_
  refine l1 (mvi rfl) ?_
  refine l1 (eql rfl rfl) ?_
  refine lnil ?_
  refine nthen ?_
  refine ciff rfl ?_
  refine cskip ?_
  refine nthen ?_
  refine cseq ?_
  refine cseq ?_
  refine creg ?_
  refine l1 (mvi rfl) ?_
  refine l1 (eql rfl rfl) ?_
  refine lnil ?_
  refine nthen ?_
  refine ciff rfl ?_
  refine cskip ?_
  refine nthen ?_
  refine cseq ?_
  refine cseq ?_
  refine creg ?_
  refine l1 (mvi rfl) ?_
  refine l1 (eql rfl rfl) ?_
  refine lnil ?_
  refine nthen ?_
  refine ciff rfl ?_
  refine cskip ?_
  refine nthen ?_
  refine cseq ?_
  refine cseq ?_
  refine creg ?_
  refine l1 (mvi rfl) ?_
  refine l1 (eql rfl rfl) ?_
  refine lnil ?_
  refine nthen ?_
  refine cift rfl ?_
  refine creg ?_
  refine l1 (mvi rfl) ?_
  refine l1 (fa fa43_0 rfl) ?_
  refine lsti 2 rfl rfl rfl Try.sizeOf3 (lb rfl) (cs' := encG ({ bumpSeen g with owner := m })) rfl ?_
  refine lnil ?_
  refine nthen ?_
  refine cseq ?_
  refine creg ?_
  refine l1 (ldw 2 Try.isAgg43 Try.sizeOf43 rfl rfl rfl) ?_
  refine lstw 1 rfl rfl rfl Try.sizeOf43 rfl rfl rfl ?_
  refine lnil ?_
  refine nthen ?_
  refine cret ?_
  exact finc 1 rfl Try.isAgg43 Try.sizeOf43 rfl rfl rfl (by rw [behind5 hw]; try rfl)

theorem rbehind0_calls (g : Grp) (n op m cut : Int) (hw : wrongB n op m = true) (w : World) : Calls Try.prog 37 #[.agg (encG g).toArray, .int .i64 n, .int .i64 op, .int .i64 m, .int .u64 cut] w (Ret (.agg (encG (behindG g n op m cut)).toArray) w) := by
  refine fn_calls (n := 62) Try.func37 rfl rfl (lb rfl) ?_
  refine cseq ?_
  refine creg ?_
  refine lbxa rfl (fun b1 => ?_)
  refine lal Try.zeroValue43 rfl (fun b2 => ?_)
  refine lnil ?_
  refine nthen ?_
  refine cseq ?_
  refine cseq ?_
  refine creg ?_
  refine l1 (mvi rfl) ?_
  refine l1 (mvi rfl) ?_
  refine l1 (mvi rfl) ?_
  refine l1 (cl hb74 rfl (mc rfl (mc rfl (mc rfl mn))) (fun w hw => wrong_calls _ _ _ w)) ?_
  refine lnil ?_
  refine nthen ?_
  refine cift (bt rfl hw) ?_
  refine cseq ?_
  refine creg ?_
  refine l1 (ldw 0 Try.isAgg43 Try.sizeOf43 rfl rfl rfl) ?_
  refine lstw 1 rfl rfl rfl Try.sizeOf43 rfl rfl rfl ?_
  refine lnil ?_
  refine nthen ?_
  refine cret ?_
  refine nthenR ?_
  exact finc 1 rfl Try.isAgg43 Try.sizeOf43 rfl rfl rfl (by rw [behind0 hw])

theorem rbehind_calls (g : Grp) (n op m cut : Int) (w : World) : Calls Try.prog 37 #[.agg (encG g).toArray, .int .i64 n, .int .i64 op, .int .i64 m, .int .u64 cut] w (Ret (.agg (encG (behindG g n op m cut)).toArray) w) := by
  cases hw : wrongB n op m with
  | true => exact rbehind0_calls g n op m cut hw w
  | false =>
    obtain ⟨h1, h2, h3⟩ := wrong_ops hw
    rcases h3 with rfl | ⟨rfl, h3⟩ | ⟨rfl, h3⟩ | rfl | rfl
    · exact rbehind1_calls g n m cut hw ⟨h1, h2⟩ w
    · exact rbehind2_calls g n m cut hw ⟨h1, h2⟩ h3 w
    · exact rbehind3_calls g n m cut hw ⟨h1, h2⟩ h3 w
    · exact rbehind4_calls g n m cut hw ⟨h1, h2⟩ w
    · exact rbehind5_calls g n m cut hw ⟨h1, h2⟩ w

theorem awake17_calls  (w : World) : Calls Try.prog 31 #[] w (Ret (.bool true) w) := by
  refine fn_calls (n := 16) Try.func31 rfl rfl (lb rfl) ?_
  refine cseq ?_
  refine creg ?_
  refine l1 (asgb rfl) ?_
  refine lnil ?_
  refine nthen ?_
  refine cseq ?_
  refine creg ?_
  refine l1 (bld0 bz43) ?_
  refine l1 (cl hb33 rfl (mc rfl (mc rfl (mc rfl (mc rfl (mc rfl mn))))) (fun w hw => behind_calls zeroG _ _ _ _ w)) ?_
  refine lal Try.zeroValue43 rfl (fun b1 => ?_)
  refine lstw 0 rfl rfl rfl Try.sizeOf43 rfl rfl rfl ?_
  refine lnil ?_
  refine nthen ?_
  refine cseq ?_
  refine creg ?_
  refine l1 (fa fa43_0 rfl) ?_
  refine l1 (ldc 0 Try.isAgg3 rfl rfl rfl) ?_
  refine l1 (eql rfl rfl) ?_
  refine l1 (mvb rfl) ?_
  refine l1g rfl (gwt rfl) (fun h => fa fa43_1 rfl) ?_
  refine l1g rfl (gwt rfl) (fun h => ldc 0 Try.isAgg3 rfl (gvt h) rfl) ?_
  refine l1g rfl (gwt rfl) (fun h => eql (gvt h) rfl) ?_
  refine l1 (pk_and rfl rfl rfl) ?_
  refine l1 (mvb rfl) ?_
  refine l1g rfl (gwt rfl) (fun h => ldw 0 Try.isAgg43 Try.sizeOf43 rfl rfl rfl) ?_
  refine l1g rfl (gwt rfl) (fun h => cl hb34 rfl (mc (gvt h) (mc rfl mn)) (fun w hw => is_calls _ _ (by omega) w)) ?_
  refine l1 (pk_and rfl rfl rfl) ?_
  refine l1 (asgb rfl) ?_
  refine lnil ?_
  refine nthen ?_
  refine cret ?_
  exact fin1 rfl rfl
end Go.Proofs.Ytkdbjhlkahkobaa
