/- drawn regions and calls with maps -/
import Derived.Test.YtkdbjhlkahkobaaMp1
import Derived.Test.YtkdbjhlkahkobaaHeld
/- a region that draws its order, in which a map is changed -/
namespace Jal
open Go Go.RowKit
def SXB (Hx : List Ent) (w : World) : Prop := ∃ W, Sat W Hx w
section
variable {P : Program} {ops : Array Oper} {Q : Exit → Act → World → Prop} {w0 : World} {H : List Ent} {n : Nat} {F : Nat → Value} {Hx : List Ent} {fuel : Nat} {listed : Array Bool}
theorem cregHB {id : Nat} {l : List Oper} (Hx : List Ent) (m : Nat) (hm : P.follows .mixedOrders = true) (hz : l.length = m)
    (h : WH P l.toArray Q (SXB Hx) w0 H m (Array.replicate m false) n F) : WC P Q w0 H (.region id l.toArray true) n F := fun w hw => by
  subst hz
  refine wp_region_held (S := SXB Hx) hm ?_
  have := h w.drew hw.drew
  simpa using this
theorem hq1B (i : Nat) {d : Nat} {op : Op} {ty : TypeId} {pos : String} {af : Array Edge} {v : Value} (hi : ops[i]? = some ⟨some d, op, ty, pos, af, none⟩) (hs : Region.noSelect ops = true) (hf : Region.free .any ops listed i = true)
    (hr : (Region.ready .any ops listed).contains i = true) (hQ : ∀ c a w, Q (.panic c) (a.put (some d) v) w → Q (.panic c) a w)
    (hX : (∃ E : Sem Value, execOp (ev n F) ⟨some d, op, ty, pos, af, none⟩ = (do let u ← E; pure (Next.value u))) ∨ ∃ u, execOp (ev n F) ⟨some d, op, ty, pos, af, none⟩ = pure (Next.value u)) (hS : ∀ w, Sat w0 H w → SXB Hx w)
    (hq : ∀ W, Qu P (Sat W Hx) (ev n F) ⟨some d, op, ty, pos, af, none⟩ v) (h : WH P ops Q (SXB Hx) w0 H fuel (listed.setIfInBounds i true) n (upd F d v)) :
    WH P ops Q (SXB Hx) w0 H (fuel + 1) listed n F := fun w hw =>
  wpAnyH_take hi hs hf hr hQ (.inl ⟨rfl, fun w ⟨x, hx⟩ => by rw [fr_eval]; exact pure_of_qu hX (hq x) w hx⟩) (hS w hw) (by rw [fr_put]; exact h w hw)
end
end Jal
/- a call that hands back a world to stand upon, and the way back -/
namespace Jal
open Go Go.RowKit
/-- a callee's answer: above a base that holds what it made -/
def BaseR (Φ : Value → World → List Ent → Prop) (w : World) : Ending → World → Prop := fun e w' => ∃ v W Hn, e = .returned v ∧ Below w.heap.size w W ∧ Φ v W Hn ∧ Sat W Hn w'
theorem Sat.unbase {w0 wc W w : World} {H Hn : List Ent} (hc : Sat w0 H wc) (hb : Below wc.heap.size wc W) (h : Sat W Hn w) : Sat w0 (H ++ Hn) w := by
  have h1 : Sat w0 H W := hc.step hb
  exact h1.join h
theorem nq_imp {Q : Exit → Act → World → Prop} {w0 w1 : World} {H H1 : List Ent} {e : Exit} {n : Nat} {F : Nat → Value} (hi : ∀ w, Sat w1 H1 w → Sat w0 H w) (h : NQ Q w0 H e n F) : NQ Q w1 H1 e n F := fun w hw => h w (hi w hw)
theorem wl_imp {P : Program} {ops rest} {Q : Exit → Act → World → Prop} {w0 w1 : World} {H H1 : List Ent} {n : Nat} {F : Nat → Value} (hi : ∀ w, Sat w1 H1 w → Sat w0 H w) (h : WL P ops Q w0 H rest n F) : WL P ops Q w1 H1 rest n F := fun w hw => h w (hi w hw)
section
variable {P : Program} {ops : Array Oper} {Q : Exit → Act → World → Prop} {w0 : World} {H : List Ent} {rest : List Oper} {n : Nat} {F : Nat → Value} {d : Nat} {ty : TypeId} {pos : String} {af : Array Edge}
theorem lclB {f : FuncId} {fx : Operand} {xs : List Operand} {ats : Array TypeId} {args : List Value} {Φ : Value → World → List Ent → Prop} (hb : HasBody P f) (hfx : ev n F fx = .func (.func f) #[] #[])
    (hx : xs.map (ev n F) = args) (hc : ∀ w, Sat w0 H w → Calls P f args.toArray w (BaseR Φ w))
    (h : ∀ v W Hn, Φ v W Hn → (∀ w', Sat W Hn w' → Sat w0 (H ++ Hn) w') → WL P ops Q W Hn rest n (upd F d v)) :
    WL P ops Q w0 H (⟨some d, .call { callee := .value fx, args := xs.toArray, argTypes := ats }, ty, pos, af, none⟩ :: rest) n F := fun w hw => wpList_plain rfl fun K hK => by
  obtain ⟨fn, h1, h2, h3⟩ := hb.h
  obtain ⟨c, hcb⟩ := Option.isSome_iff_exists.1 h3
  have h2' : fn.name ≠ "runtime.NumGoroutine" := by simpa using h2
  have hr : (execOp (ev n F) ⟨some d, .call { callee := .value fx, args := xs.toArray, argTypes := ats }, ty, pos, af, none⟩).run P w = .ok (.enter f args.toArray) w := by
    simp [execOp, resolve, hfx, hx, Deferred.ofValue, invoke, callFunc, Sem.run, program, h1, h2', hcb]
  unfold Oper.wp
  rw [fr_eval, hr]
  refine (hc w hw).mono fun e w' ⟨v, W, Hn, h4, h5, h6, h7⟩ => ?_
  subst h4
  exact hK _ _ (by rw [fr_put]; exact h v W Hn h6 (fun w2 h2 => hw.unbase h5 h2) _ h7)
end
end Jal
