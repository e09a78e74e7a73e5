/- a region that draws its order: what only reads is taken first; what is left comes up one by one -/
import Derived.Test.YtkdbjhlkahkobaaTail
import Derived.Test.YtkdbjhlkahkobaaMem
import Derived.OrdersHeld
namespace Jal
open Go Go.RowKit
/-- some of our blocks hold whatever it may be -/
def SX {X : Type} (w0 : World) (Hx : X → List Ent) (w : World) : Prop := ∃ x, Sat w0 (Hx x) w
def WH (P : Program) (ops : Array Oper) (Q : Exit → Act → World → Prop) (S : World → Prop) (w0 : World) (H : List Ent) (fuel : Nat) (listed : Array Bool) (n : Nat) (F : Nat → Value) : Prop :=
  ∀ w, Sat w0 H w → wpAnyH P .any ops Q S fuel listed (fr n F) w
section
variable {P : Program} {ops : Array Oper} {Q : Exit → Act → World → Prop} {w0 : World} {H : List Ent} {n : Nat} {F : Nat → Value} {X : Type} {Hx : X → List Ent} {fuel : Nat} {listed : Array Bool}
theorem cregH {id : Nat} {l : List Oper} (Hx : X → List Ent) (m : Nat) (hm : P.follows .mixedOrders = true) (hz : l.length = m)
    (h : WH P l.toArray Q (SX w0 Hx) w0 H m (Array.replicate m false) n F) : WC P Q w0 H (.region id l.toArray true) n F := fun w hw => by
  subst hz
  refine wp_region_held (S := SX w0 Hx) hm ?_
  have := h w.drew hw.drew
  simpa using this
theorem pure_of_qu {C : World → Prop} {ρ : Operand → Value} {o : Oper} {v : Value} (hX : (∃ E : Sem Value, execOp ρ o = (do let u ← E; pure (Next.value u))) ∨ ∃ u, execOp ρ o = pure (Next.value u)) (hq : Qu P C ρ o v) (w : World) (hw : C w) : (execOp ρ o).run P w = .ok (.value v) w := by
  have h := hq w hw
  rcases hX with ⟨E, hE⟩ | ⟨u, hE⟩
  rotate_left
  · rw [hE] at h ⊢
    obtain ⟨h1, _⟩ : u = v ∧ w = w := ⟨h.2, rfl⟩
    subst h1; rfl
  rw [hE, Sem.run_bind] at h ⊢
  cases hr : E.run P w with
  | ok u w' =>
    rw [hr] at h
    simp only [Result.andThen_ok, Sem.run_pure] at h ⊢
    obtain ⟨h1, h2⟩ := h
    subst h1; subst h2; rfl
  | halt x w' =>
    rw [hr] at h
    exact absurd h (by simp [Result.andThen, Oper.quietUpon])
theorem hq1 (i : Nat) {d : Nat} {op : Op} {ty : TypeId} {pos : String} {af : Array Edge} {v : Value} (hi : ops[i]? = some ⟨some d, op, ty, pos, af, none⟩) (hs : Region.noSelect ops = true) (hf : Region.free .any ops listed i = true)
    (hr : (Region.ready .any ops listed).contains i = true) (hQ : ∀ c a w, Q (.panic c) (a.put (some d) v) w → Q (.panic c) a w)
    (hX : (∃ E : Sem Value, execOp (ev n F) ⟨some d, op, ty, pos, af, none⟩ = (do let u ← E; pure (Next.value u))) ∨ ∃ u, execOp (ev n F) ⟨some d, op, ty, pos, af, none⟩ = pure (Next.value u)) (hS : ∀ w, Sat w0 H w → SX w0 Hx w)
    (hq : ∀ x, Qu P (Sat w0 (Hx x)) (ev n F) ⟨some d, op, ty, pos, af, none⟩ v) (h : WH P ops Q (SX w0 Hx) w0 H fuel (listed.setIfInBounds i true) n (upd F d v)) :
    WH P ops Q (SX w0 Hx) w0 H (fuel + 1) listed n F := fun w hw =>
  wpAnyH_take hi hs hf hr hQ (.inl ⟨rfl, fun w ⟨x, hx⟩ => by rw [fr_eval]; exact pure_of_qu hX (hq x) w hx⟩) (hS w hw) (by rw [fr_put]; exact h w hw)
def QH (P : Program) (ops : Array Oper) (Q : Exit → Act → World → Prop) (S : World → Prop) (fuel : Nat) (listed : Array Bool) (e : Exit) (a : Act) (w : World) : Prop :=
  match e with
  | .normal => S w ∧ wpAnyH P .any ops Q S fuel listed a w
  | e => Q e a w
theorem wp_other {o : Oper} {a : Act} {w : World} {K : Act → World → Prop} {Q1 Q2 : Exit → Act → World → Prop} (hp : ∀ c a w, Q1 (.panic c) a w → Q2 (.panic c) a w) (hl : LetsOut Q1 → LetsOut Q2)
    (h : o.wp P a w K Q1) : o.wp P a w K Q2 := by
  unfold Oper.wp at *
  generalize (execOp a.eval o).run P w = r at *
  cases r with
  | ok n w' =>
    cases n <;> simp only [Oper.upon] at h ⊢ <;> try exact h
    refine Calls.mono h fun e w'' he => ?_
    cases e with
    | returned v => exact he
    | panicked c => exact hp _ _ _ he
    | outgrown => exact hl he
  | halt x w' =>
    cases x <;> simp only [Oper.upon] at h ⊢
    exact hp _ _ _ h
theorem he (k : Nat) {o : Oper} {S : World → Prop} (hr : Region.ready .any ops listed = [k]) (ho : ops[k]? = some o)
    (h : WL P ops (QH P ops Q S fuel (listed.setIfInBounds k true)) w0 H [o] n F) : WH P ops Q S w0 H (fuel + 1) listed n F := fun w hw => by
  refine wpAnyH_all (rs := [k]) hr (by simp) (fun i hi => ?_)
  obtain rfl := List.mem_singleton.1 hi
  have h1 := h w hw
  unfold wpOp
  simp only [ho]
  unfold wpList at h1
  split at h1
  · rename_i hw1
    rw [if_pos hw1]
    refine h1.imp (fun h2 => ?_) (fun h2 => h2)
    exact wp_other (Q1 := QH P ops Q S fuel (listed.setIfInBounds i true)) (fun _ _ _ h => h) (fun h => h) h2
  · rename_i hw1
    rw [if_neg hw1]
    exact h1
theorem hem (rs : List Nat) {S : World → Prop} (hr : Region.ready .any ops listed = rs) (hne : rs ≠ []) (h : ∀ k ∈ rs, ∃ o, ops[k]? = some o ∧ WL P ops (QH P ops Q S fuel (listed.setIfInBounds k true)) w0 H [o] n F) :
    WH P ops Q S w0 H (fuel + 1) listed n F := fun w hw => by
  refine wpAnyH_all hr hne (fun i hi => ?_)
  obtain ⟨o, ho, hk⟩ := h i hi
  have h1 := hk w hw
  unfold wpOp
  simp only [ho]
  unfold wpList at h1
  split at h1
  · rename_i hw1
    rw [if_pos hw1]
    refine h1.imp (fun h2 => ?_) (fun h2 => h2)
    exact wp_other (Q1 := QH P ops Q S fuel (listed.setIfInBounds i true)) (fun _ _ _ h => h) (fun h => h) h2
  · rename_i hw1
    rw [if_neg hw1]
    exact h1
theorem hem2 (i j : Nat) {S : World → Prop} {o1 o2 : Oper} (hr : Region.ready .any ops listed = [i, j]) (h1 : ops[i]? = some o1) (h2 : ops[j]? = some o2)
    (k1 : WL P ops (QH P ops Q S fuel (listed.setIfInBounds i true)) w0 H [o1] n F) (k2 : WL P ops (QH P ops Q S fuel (listed.setIfInBounds j true)) w0 H [o2] n F) : WH P ops Q S w0 H (fuel + 1) listed n F :=
  hem [i, j] hr (by simp) fun k hk => by
    rcases List.mem_cons.1 hk with rfl | hk
    · exact ⟨o1, h1, k1⟩
    · obtain rfl := List.mem_singleton.1 hk; exact ⟨o2, h2, k2⟩
theorem hem3 (i j l : Nat) {S : World → Prop} {o1 o2 o3 : Oper} (hr : Region.ready .any ops listed = [i, j, l]) (h1 : ops[i]? = some o1) (h2 : ops[j]? = some o2) (h3 : ops[l]? = some o3)
    (k1 : WL P ops (QH P ops Q S fuel (listed.setIfInBounds i true)) w0 H [o1] n F) (k2 : WL P ops (QH P ops Q S fuel (listed.setIfInBounds j true)) w0 H [o2] n F)
    (k3 : WL P ops (QH P ops Q S fuel (listed.setIfInBounds l true)) w0 H [o3] n F) : WH P ops Q S w0 H (fuel + 1) listed n F :=
  hem [i, j, l] hr (by simp) fun k hk => by
    rcases List.mem_cons.1 hk with rfl | hk
    · exact ⟨o1, h1, k1⟩
    · rcases List.mem_cons.1 hk with rfl | hk
      · exact ⟨o2, h2, k2⟩
      · obtain rfl := List.mem_singleton.1 hk; exact ⟨o3, h3, k3⟩
theorem hnil {S : World → Prop} (hS : ∀ w, Sat w0 H w → S w) (h : WH P ops Q S w0 H fuel listed n F) : WL P ops (QH P ops Q S fuel listed) w0 H [] n F := lnil fun w hw => ⟨hS w hw, h w hw⟩
theorem hend {S : World → Prop} (hr : Region.ready .any ops listed = []) (h : NQ Q w0 H .normal n F) : WH P ops Q S w0 H fuel listed n F := fun w hw => wpAnyH_done hr (h w hw) _
/-- the ways through a piece of code meet again -/
def CutQ (Q : Exit → Act → World → Prop) (w0 : World) (n : Nat) {Y : Type} (Hy : Y → List Ent) (sl : Y → List (Nat × Value)) (I : Y → Prop) (e : Exit) (a : Act) (w : World) : Prop :=
  match e with
  | .normal => ∃ y j, I y ∧ a = fr n (over j (sl y)) ∧ Sat w0 (Hy y) w
  | e => Q e a w
theorem ccut {Y : Type} {c : Code} (Hy : Y → List Ent) (sl : Y → List (Nat × Value)) (I : Y → Prop) (h1 : WC P (CutQ Q w0 n Hy sl I) w0 H c n F) (h2 : ∀ y j, I y → NQ Q w0 (Hy y) .normal n (over j (sl y))) : WC P Q w0 H c n F := fun w hw => by
  refine Code.wp_mono (fun e a w q => ?_) (h1 w hw)
  cases e <;> first | exact q | skip
  obtain ⟨y, j, hI, rfl, hs⟩ := q
  exact h2 y j hI w hs
theorem nCut {Y : Type} {Hy : Y → List Ent} {sl : Y → List (Nat × Value)} {I : Y → Prop} (y : Y) (hI : I y) (hF : AllEq F (sl y)) (hH : ∃ l : List Ent, l.Perm (Hy y) ∧ l.Sublist H) : NQ (CutQ Q w0 n Hy sl I) w0 H .normal n F := fun w hw => by
  obtain ⟨l, hp, hl⟩ := hH
  exact ⟨y, F, hI, by rw [over_same hF], (hw.sub hl).perm hp.symm⟩
end
end Jal
