/- memory that a call hands back, and append, in the walk's words -/
import Derived.Test.YtkdbjhlkahkobaaCore
import Derived.Deep.AppendLies
namespace Jal
open Go Go.RowKit

theorem Sat.perm {w0 : World} {H H' : List Ent} {w : World} (h : Sat w0 H w) (hp : H'.Perm H) : Sat w0 H' w :=
  ⟨h.below, fun e he => h.own e (hp.mem_iff.1 he), (hp.pairwise_iff (fun h => h.symm)).2 h.apart⟩
theorem put_perm (k : Nat) (X H : List Ent) : (H.take k ++ (X ++ H.drop k)).Perm (H ++ X) := by
  have h1 : (H.take k ++ (X ++ H.drop k)).Perm (H.take k ++ (H.drop k ++ X)) := List.Perm.append_left _ List.perm_append_comm
  have h2 : H.take k ++ (H.drop k ++ X) = H ++ X := by rw [← List.append_assoc, List.take_append_drop]
  rw [h2] at h1
  exact h1
theorem ins_perm (k : Nat) (x : Ent) (H : List Ent) : (H.take k ++ x :: H.drop k).Perm (H ++ [x]) := put_perm k [x] H
theorem Sat.join {w0 : World} {H Hn : List Ent} {w w' : World} (h : Sat w0 H w) (hn : Sat w Hn w') : Sat w0 (H ++ Hn) w' := by
  have h1 := h.step hn.below
  refine ⟨h1.below, fun e he => ?_, List.pairwise_append.2 ⟨h1.apart, hn.apart, fun x hx y hy => ?_⟩⟩
  · rcases List.mem_append.1 he with he | he
    · exact h1.own e he
    · obtain ⟨a, b⟩ := hn.own e he
      exact ⟨Nat.le_trans h.size a, b⟩
  · have := h.lt hx; have := (hn.own y hy).1; omega
/-- what comes back, with the blocks that are new -/
def RetM (φ : Value → List Ent → Prop) (w : World) : Ending → World → Prop := fun e w' => ∃ v H, e = .returned v ∧ φ v H ∧ Sat w H w'

/-- n elements of sz cells each, in one of these blocks, from its start on -/
def SlIn (H : List Ent) (p : Option Addr) (n sz : Nat) (el : Nat → List Value) : Prop :=
  n = 0 ∨ ∃ e ∈ H, p = some ⟨e.b, 0, none⟩ ∧ ∀ i, i < n → ∀ j v, (el i)[j]? = some v → e.cs[i * sz + j]? = some v
theorem SlIn.mono {H H' : List Ent} {p : Option Addr} {n sz : Nat} {el : Nat → List Value} (h : SlIn H p n sz el) (hs : ∀ e ∈ H, e ∈ H') : SlIn H' p n sz el := by
  rcases h with h | ⟨e, he, h⟩
  · exact .inl h
  · exact .inr ⟨e, hs e he, h⟩
theorem SlIn.sl {w0 w : World} {H : List Ent} {p : Option Addr} {n sz : Nat} {el : Nat → List Value} (h : SlIn H p n sz el) (hw : Sat w0 H w) : Sl w p n sz el := by
  rcases h with h | ⟨e, he, rfl, h⟩
  · exact ⟨.inl h⟩
  · refine ⟨.inr ⟨e.b, 0, rfl, hw.lt he, fun i hi j v hv => ?_⟩⟩
    have h1 := h i hi j v hv
    rw [Addr.add_off]
    simp only [World.cell?, (hw.own e he).2]
    simpa [Nat.zero_add] using h1
theorem Sl.kept {w w' : World} {p : Option Addr} {n sz : Nat} {el : Nat → List Value} (h : Sl w p n sz el) (hb : Below w.heap.size w w') : Sl w' p n sz el := by
  rcases h.h with h | ⟨b, o, rfl, hlt, h⟩
  · exact ⟨.inl h⟩
  · exact ⟨.inr ⟨b, o, rfl, Nat.lt_of_lt_of_le hlt hb.size, fun i hi => (h i hi).kept hb hlt⟩⟩
theorem Sl.keptS {w0 w : World} {H : List Ent} {p : Option Addr} {n sz : Nat} {el : Nat → List Value} (h : Sl w0 p n sz el) (hw : Sat w0 H w) : Sl w p n sz el := h.kept hw.below

section
variable {P : Program} {ops : Array Oper} {Q : Exit → Act → World → Prop} {w0 : World} {H : List Ent} {rest : List Oper} {n : Nat} {F : Nat → Value} {d : Nat} {op : Op} {ty : TypeId} {pos : String} {af : Array Edge} {v : Value}
theorem wl_perm {H' : List Ent} (hp : H'.Perm H) (h : WL P ops Q w0 H' rest n F) : WL P ops Q w0 H rest n F := fun w hw => h w (hw.perm hp)
theorem wc_perm {c : Code} {H' : List Ent} (hp : H'.Perm H) (h : WC P Q w0 H' c n F) : WC P Q w0 H c n F := fun w hw => h w (hw.perm hp)
theorem nq_perm {e : Exit} {H' : List Ent} (hp : H'.Perm H) (h : NQ Q w0 H' e n F) : NQ Q w0 H e n F := fun w hw => h w (hw.perm hp)
theorem nq_sub {e : Exit} {H' : List Ent} (hs : H'.Sublist H) (h : NQ Q w0 H' e n F) : NQ Q w0 H e n F := fun w hw => h w (hw.sub hs)
/-- an operation by its run, with what it leaves -/
theorem lrun {X : Type} (vx : X → Value) (Hx : X → List Ent) (I : X → Prop)
    (hr : ∀ w, Sat w0 H w → ∃ x w', (execOp (ev n F) ⟨some d, op, ty, pos, af, none⟩).run P w = .ok (.value (vx x)) w' ∧ Sat w0 (Hx x) w' ∧ I x)
    (h : ∀ x, I x → WL P ops Q w0 (Hx x) rest n (upd F d (vx x))) : WL P ops Q w0 H (⟨some d, op, ty, pos, af, none⟩ :: rest) n F :=
  fun w hw => wpList_plain rfl fun K hK => by
    obtain ⟨x, w', h1, h2, h3⟩ := hr w hw
    unfold Oper.wp
    rw [fr_eval, h1]
    exact hK _ _ (by rw [fr_put]; exact h x h3 _ h2)
/-- a call that hands back memory -/
theorem lclm {f : FuncId} {fx : Operand} {xs : List Operand} {ats : Array TypeId} {args : List Value} {φ : Value → List Ent → Prop} (hb : HasBody P f) (hfx : ev n F fx = .func (.func f) #[] #[])
    (hx : xs.map (ev n F) = args) (hc : ∀ w, Sat w0 H w → Calls P f args.toArray w (RetM φ w))
    (h : ∀ v Hn, φ v Hn → WL P ops Q w0 (H ++ Hn) rest n (upd F d v)) :
    WL P ops Q w0 H (⟨some d, .call { callee := .value fx, args := xs.toArray, argTypes := ats }, ty, pos, af, none⟩ :: rest) n F := fun w hw => wpList_plain rfl fun K hK => by
  obtain ⟨fn, h1, h2, h3⟩ := hb.h
  obtain ⟨c, hcb⟩ := Option.isSome_iff_exists.1 h3
  have h2' : fn.name ≠ "runtime.NumGoroutine" := by simpa using h2
  have hr : (execOp (ev n F) ⟨some d, .call { callee := .value fx, args := xs.toArray, argTypes := ats }, ty, pos, af, none⟩).run P w = .ok (.enter f args.toArray) w := by
    simp [execOp, resolve, hfx, hx, Deferred.ofValue, invoke, callFunc, Sem.run, program, h1, h2', hcb]
  unfold Oper.wp
  rw [fr_eval, hr]
  refine (hc w hw).mono fun e w' ⟨v, Hn, h4, h5, h6⟩ => ?_
  subst h4
  exact hK _ _ (by rw [fr_put]; exact h v Hn h5 _ (hw.join h6))
end

/-- a struct or an array out of its parts -/
theorem bldk {P : Program} {C : World → Prop} {ρ : Operand → Value} {d : Option Tmp} {ty : TypeId} {pos : String} {af : Array Edge} {g : Option (Nat × Bool)} {t : TypeId} {parts : List (Nat × Operand)} {vals : List (Nat × Value)} {zs : List Value} (hp : parts.map (fun p => (p.1, ρ p.2)) = vals)
    (hr : ∀ w, (Instr.build t vals.toArray).run P w = .ok (.agg zs.toArray) w) : Qu P C ρ ⟨d, .build t parts.toArray, ty, pos, af, g⟩ (.agg zs.toArray) :=
  qu_of_run fun w _ => by
    subst hp
    have h := hr w
    have e : (parts.toArray.map fun x : Nat × Operand => (x.1, ρ x.2)) = (parts.map fun p => (p.1, ρ p.2)).toArray := by simp
    unfold execOp
    show (Sem.run P (do let v ← Instr.build t (parts.toArray.map fun x : Nat × Operand => (x.1, ρ x.2)); pure (Next.value v)) w) = _
    rw [e, Sem.run_bind, h]; rfl

/-- a slice out of its elements -/
theorem lbs {P : Program} {ops : Array Oper} {Q : Exit → Act → World → Prop} {w0 : World} {H : List Ent} {rest : List Oper} {n : Nat} {F : Nat → Value} {d : Nat} {ty : TypeId} {pos : String} {af : Array Edge}
    {t e : TypeId} {len : Nat} {parts : List (Nat × Operand)} {vals : List (Nat × Value)} {cs : List Value} (_ : P.underlying t = some (.slice e)) (hp : parts.map (fun p => (p.1, ev n F p.2)) = vals)
    (hr : ∀ w : World, (Instr.buildSlice t len vals.toArray).run P w = .ok (.slice (some ⟨w.heap.size, 0, none⟩) len len) (w.alloc (.cells cs.toArray e)))
    (h : ∀ b, WL P ops Q w0 (H ++ [⟨b, cs, e⟩]) rest n (upd F d (.slice (some ⟨b, 0, none⟩) len len))) : WL P ops Q w0 H (⟨some d, .buildSlice t len parts.toArray, ty, pos, af, none⟩ :: rest) n F := by
  refine lrun (X := Nat) (fun b => .slice (some ⟨b, 0, none⟩) len len) (fun b => H ++ [⟨b, cs, e⟩]) (fun _ => True) (fun w hw => ⟨w.heap.size, _, ?_, hw.alloc cs e, trivial⟩) (fun b _ => h b)
  have hr' := hr w
  subst hp
  have e1 : (parts.toArray.map fun x : Nat × Operand => (x.1, ev n F x.2)) = (parts.map fun p => (p.1, ev n F p.2)).toArray := by simp
  unfold execOp
  show (Sem.run P (do let v ← Instr.buildSlice t len (parts.toArray.map fun x : Nat × Operand => (x.1, ev n F x.2)); pure (Next.value v)) w) = _
  rw [e1, Sem.run_bind, hr']; rfl

theorem Mem.c0 {w : World} {b o : Nat} {v : Value} (h : Mem w ⟨b, o, none⟩ [v]) : w.cell? ⟨b, o, none⟩ = some v := by
  have := h 0 v rfl
  rwa [Addr.add_off] at this
theorem Sat.grown {w0 w w' : World} {A B : List Ent} {row : Option Nat} {g : Nat} {cs : List Value} {t : TypeId} (h : Sat w0 (A ++ B) w) (hg : w.grownBy w' row)
    (hrow : ∀ x ∈ A ++ B, some x.b ≠ row) (hrow0 : ∀ k, row = some k → w0.heap.size ≤ k) (hgg : row = some g ∨ g = w.heap.size) (hc : w'.heap[g]? = some (.cells cs.toArray t (0, 0))) :
    Sat w0 (A ++ (⟨g, cs, t⟩ :: B)) w' := by
  have hs := h.size
  have key : Sat w0 (⟨g, cs, t⟩ :: (A ++ B)) w' := by
    refine ⟨h.below.trans ⟨hg.os, hg.tape, hg.output, hg.size, fun k hk => hg.block k (by omega) (fun e => ?_)⟩, fun e he => ?_, List.pairwise_cons.2 ⟨fun y hy => ?_, h.apart⟩⟩
    · have := hrow0 k e.symm; omega
    · rcases List.mem_cons.1 he with rfl | he
      · refine ⟨?_, hc⟩
        rcases hgg with hgg | hgg
        · exact hrow0 _ hgg
        · show w0.heap.size ≤ g; omega
      · exact ⟨(h.own e he).1, (hg.block e.b (h.lt he) (hrow e he)).trans (h.own e he).2⟩
    · show g ≠ y.b
      rcases hgg with hgg | hgg
      · have := hrow y hy; rw [hgg] at this; exact fun e => this (by rw [e])
      · have := h.lt hy; omega
  exact key.perm List.perm_middle

/-- a slice's type: its element's type, cells and bytes -/
structure ElT (P : Program) (t e : TypeId) (size bytes : Nat) : Prop where
  h : ∃ i z, P.underlying t = some (.slice e) ∧ P.info? e = some i ∧ i.zero = some z ∧ i.size = size ∧ i.bytes = bytes ∧ z.cells.size = size ∧ 0 < size
/-- a slice of our own, in a block of its own, or nil: its elements' cells -/
def OwnL (e : TypeId) (size : Nat) (v : Value) (n : Nat) (xs : List Value) (oe : List Ent) : Prop :=
  xs.length = n * size ∧ ((v = .slice none 0 0 ∧ n = 0 ∧ oe = []) ∨
    ∃ g cap cur, v = .slice (some ⟨g, 0, none⟩) n cap ∧ oe = [⟨g, cur, e⟩] ∧ n ≤ cap ∧ cap ≤ maxLen ∧ cur.length = cap * size ∧ cur.take (n * size) = xs)
theorem OwnL.nil (e : TypeId) (size : Nat) : OwnL e size (.slice none 0 0) 0 [] [] := ⟨by simp, .inl ⟨rfl, rfl, rfl⟩⟩
theorem OwnL.form {e : TypeId} {size : Nat} {v : Value} {n : Nat} {xs : List Value} {oe : List Ent} (h : OwnL e size v n xs oe) : ∃ p c, v = .slice p n c := by
  rcases h.2 with ⟨rfl, rfl, _⟩ | ⟨g, cap, cur, rfl, _⟩
  · exact ⟨_, _, rfl⟩
  · exact ⟨_, _, rfl⟩
/-- what it holds, element by element -/
theorem OwnL.slIn {e : TypeId} {size : Nat} {p : Option Addr} {c n : Nat} {xs : List Value} {oe : List Ent} {el : Nat → List Value} (h : OwnL e size (.slice p n c) n xs oe)
    (hel : ∀ i, i < n → ∀ j v, (el i)[j]? = some v → xs[i * size + j]? = some v) : SlIn oe p n size el := by
  rcases h.2 with ⟨_, h0, _⟩ | ⟨g, cap, cur, hv, rfl, hn, _, hc, ht⟩
  · exact .inl h0
  · cases hv
    refine .inr ⟨_, List.mem_singleton.2 rfl, rfl, fun i hi j v hv => ?_⟩
    have h1 := hel i hi j v hv
    rw [← ht, List.getElem?_take] at h1
    split at h1
    · exact h1
    · cases h1
theorem lapp {P : Program} {ops : Array Oper} {Q : Exit → Act → World → Prop} {w0 : World} {H : List Ent} {rest : List Oper} {n : Nat} {F : Nat → Value} {d : Nat} {ty : TypeId} {pos : String} {af : Array Edge}
    {t e : TypeId} {size bytes : Nat} {s x : Operand} {v : Value} {k : Nat} {xs news : List Value} {ad : Addr} {m c : Nat} (A B oe : List Ent) (hT : ElT P t e size bytes) (hH : H = A ++ (oe ++ B))
    (hs : ev n F s = v) (hown : OwnL e size v k xs oe) (hx : ev n F x = .slice (some ad) m c) (hl : news.length = m * size) (hnews : ∀ w, Sat w0 H w → Mem w ad news) (h1 : ∀ u ∈ news, u.oneCell' = true)
    (hm : 0 < m) (h63 : k + m ≤ maxLen) (hby : (k + m) * bytes ≤ 140737488355328)
    (h : ∀ g cap oe', OwnL e size (.slice (some ⟨g, 0, none⟩) (k + m) cap) (k + m) (xs ++ news) oe' → WL P ops Q w0 (A ++ (oe' ++ B)) rest n (upd F d (.slice (some ⟨g, 0, none⟩) (k + m) cap))) :
    WL P ops Q w0 H (⟨some d, .call { callee := .builtin .append, args := #[s, x], argTypes := #[t, t] }, ty, pos, af, none⟩ :: rest) n F := fun w hw => wpList_plain rfl fun K hK => by
  obtain ⟨i, z, ht, hi, hz, hsize, hbytes, hzs, hpos⟩ := hT.h
  subst hH
  have hsz := hw.size
  have hO : w.ownsRow w0.heap.size e size v k xs := by
    refine ⟨hown.1, ?_⟩
    rcases hown.2 with ⟨h2, h3, _⟩ | ⟨g, cap, cur, h2, rfl, h3, h4, h5, h6⟩
    · exact .inl ⟨h2, h3⟩
    · have hm := hw.own ⟨g, cur, e⟩ (by simp)
      exact .inr ⟨g, cap, cur.toArray, h2, hm.1, hm.2, h3, h4, by simpa using h5, by simpa using h6⟩
  obtain ⟨g, cap, w', hr, h2, h3, h4, _⟩ := run_append_lies (P := P) w t ty w0.heap.size e i z size bytes ht hi hz hsize hbytes hzs hpos v k xs hO ad m c news hl (fun j u hj => hnews w hw j u hj) h1 hm h63 hby hsz _ rfl
  have hrun : (execOp (fr n F).eval ⟨some d, .call { callee := .builtin .append, args := #[s, x], argTypes := #[t, t] }, ty, pos, af, none⟩).run P w = .ok (.value (.slice (some ⟨g, 0, none⟩) (k + m) cap)) w' := by
    unfold execOp
    simp only [resolve, invoke, builtin, Sem.run_bind, Sem.run_pure, Result.andThen_ok, List.map_toArray, List.map_cons, List.map_nil, fr_eval, hs, hx, hr]
  unfold Oper.wp
  rw [hrun]
  refine hK _ _ ?_
  rw [fr_put]
  rcases h2.2 with ⟨h5, _⟩ | ⟨g', cap', cur, h5, h6, h7, h8, h9, h10, h11⟩
  · cases h5
  · cases h5
    refine h g cap [⟨g, cur.toList, e⟩] ⟨h2.1, .inr ⟨g, cap, cur.toList, rfl, rfl, h8, h9, by simpa using h10, h11⟩⟩ w' ?_
    have hAB : Sat w0 (A ++ B) w := hw.sub (List.Sublist.append_left (List.sublist_append_right _ _) _)
    have hrow : ∀ y ∈ A ++ B, some y.b ≠ v.ownBlock := by
      rcases hown.2 with ⟨rfl, _, _⟩ | ⟨b, cap2, cur2, rfl, rfl, _⟩
      · intro y _; simp [Value.ownBlock]
      · intro y hy hc
        have hp : Sat w0 (⟨b, cur2, e⟩ :: (A ++ B)) w := hw.perm (by simpa using List.perm_middle.symm)
        have := (List.pairwise_cons.1 hp.apart).1 y hy
        simp [Value.ownBlock] at hc
        exact this hc.symm
    have hrow0 : ∀ q, v.ownBlock = some q → w0.heap.size ≤ q := by
      rcases hown.2 with ⟨rfl, _, _⟩ | ⟨b, cap2, cur2, rfl, rfl, _⟩
      · intro q hq; simp [Value.ownBlock] at hq
      · intro q hq
        simp [Value.ownBlock] at hq
        subst hq
        exact (hw.own ⟨b, cur2, e⟩ (by simp)).1
    have := hAB.grown h3 hrow hrow0 h4 (cs := cur.toList) (t := e) (by simpa using h7)
    simpa using this
/-- one result -/
def rvS (tmps : Array Value) (r : ResultVar) : Sem Value :=
  match r with
  | .tmp t => pure (tmps.getD t undef)
  | .cell a t => do loadVar t (← asAddr (tmps.getD a undef))
def RV (P : Program) (w0 : World) (H : List Ent) (n : Nat) (F : Nat → Value) (r : ResultVar) (v : Value) : Prop := ∀ w, Sat w0 H w → (rvS (fr n F).tmps r).run P w = .ok v w
section
variable {P : Program} {w0 : World} {H : List Ent} {n : Nat} {F : Nat → Value} {fn : Func} {v v1 v2 : Value}
theorem rvt {t : Tmp} (hv : ev n F (.tmp t) = v) : RV P w0 H n F (.tmp t) v := fun w _ => by
  show (pure ((fr n F).tmps.getD t undef) : Sem Value).run P w = _
  rw [fr_getD, hv]; rfl
theorem rvc (i : Nat) {t : Tmp} {ty : TypeId} {e : Ent} {k : Nat} {vs : List Value} (ha : ∀ w, (isAgg ty).run P w = .ok true w)
    (hk : ∀ w, (Go.sizeOf ty).run P w = .ok k w) (hi : H[i]? = some e) (hx : ev n F (.tmp t) = .pointer (some ⟨e.b, 0, none⟩)) (hl : vs.length = k) (hv : e.cs = vs) : RV P w0 H n F (.cell t ty) (.agg vs.toArray) :=
  fun w hw => by
    have hm := hw.mem hi 0
    have hrn := run_loadCells_list (P := P) w ⟨e.b, 0, none⟩ vs (fun j v hj => hm j v (by rw [hv]; simpa using hj))
    rw [hl] at hrn
    show (do loadVar ty (← asAddr ((fr n F).tmps.getD t undef)) : Sem Value).run P w = _
    rw [fr_getD, hx]
    simp [asAddr, loadVar, ha, hk, hrn]
theorem results_rv : (results fn (fr n F).tmps) = (do
    let vs ← fn.results.mapM (rvS (fr n F).tmps)
    pure (if h : vs.size = 1 then vs[0] else .tuple vs)) := by
  unfold results
  congr 1
theorem rv2 {r1 r2 : ResultVar} (hr : fn.results = #[r1, r2]) (h1 : RV P w0 H n F r1 v1) (h2 : RV P w0 H n F r2 v2) : ∀ w, Sat w0 H w → (results fn (fr n F).tmps).run P w = .ok (.tuple #[v1, v2]) w := fun w hw => by
  have e1 := h1 w hw
  have e2 := h2 w hw
  rw [results_rv, hr]
  simp
  rw [e1]
  show (Result.andThen (Sem.run P (rvS (fr n F).tmps r2) w) fun a_1 w' => Result.ok (Value.tuple #[v1, a_1]) w') = _
  rw [e2]; rfl
theorem rv1 {r1 : ResultVar} (hr : fn.results = #[r1]) (h1 : RV P w0 H n F r1 v1) : ∀ w, Sat w0 H w → (results fn (fr n F).tmps).run P w = .ok v1 w := fun w hw => by
  have e1 := h1 w hw
  rw [results_rv, hr]
  simp
  rw [e1]
end
/-- an operation on two values by its run -/
theorem binc {P : Program} {C : World → Prop} {ρ : Operand → Value} {d : Option Tmp} {ty : TypeId} {pos : String} {af : Array Edge} {g : Option (Nat × Bool)} {op : BinOp} {x y : Operand} {t t' : TypeId} {u v r : Value} (hx : ρ x = u) (hy : ρ y = v)
    (hr : ∀ w, (do eqGuard op t x y u v; binOp op t u v).run P w = .ok r w) : Qu P C ρ ⟨d, .binOp op t x y t', ty, pos, af, g⟩ r :=
  qu_of_run fun w _ => by
    have h := hr w
    simp only [execOp, hx, hy]
    rw [Sem.run_bind, h]; rfl
/-- the end of a function that hands back memory -/
theorem finM {P : Program} {w0 : World} {H : List Ent} {n : Nat} {F : Nat → Value} {fn : Func} {φ : Value → List Ent → Prop} (v : Value) (Hn : List Ent) (hr : ∀ w, Sat w0 H w → (results fn (fr n F).tmps).run P w = .ok v w) (hs : ∃ l : List Ent, l.Perm Hn ∧ l.Sublist H) (hφ : φ v Hn) :
    NQ (bodyPost P fn (RetM φ w0)) w0 H .ret n F := fun w hw => by
  obtain ⟨l, hp, hl⟩ := hs
  exact ⟨rfl, v, hr w hw, v, Hn, rfl, hφ, (hw.sub hl).perm hp.symm⟩
end Jal
