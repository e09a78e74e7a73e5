/- more forms of append; a slice cut -/
import Derived.Test.YtkdbjhlkahkobaaMem2
namespace Jal
open Go Go.RowKit
section
variable {P : Program} {ops : Array Oper} {Q : Exit → Act → World → Prop} {w0 : World} {H : List Ent} {rest : List Oper} {n : Nat} {F : Nat → Value} {d : Nat} {op : Op} {ty : TypeId} {pos : String} {af : Array Edge} {v : Value}
/-- append to a row that stands behind another one -/
theorem lapp3 {t e : TypeId} {size bytes : Nat} {s x : Operand} {v : Value} {k : Nat} {xs news : List Value} {ad : Addr} {m c : Nat} (A1 A2 B oe : List Ent) (hT : ElT P t e size bytes) (hH : H = A1 ++ (A2 ++ (oe ++ B)))
    (hs : ev n F s = v) (hown : OwnL e size v k xs oe) (hx : ev n F x = .slice (some ad) m c) (hl : news.length = m * size) (hnews : ∀ w, Sat w0 H w → Mem w ad news) (h1 : ∀ u ∈ news, u.oneCell' = true)
    (hm : 0 < m) (h63 : k + m ≤ maxLen) (hby : (k + m) * bytes ≤ 140737488355328)
    (h : ∀ g cap oe', OwnL e size (.slice (some ⟨g, 0, none⟩) (k + m) cap) (k + m) (xs ++ news) oe' → WL P ops Q w0 (A1 ++ (A2 ++ (oe' ++ B))) rest n (upd F d (.slice (some ⟨g, 0, none⟩) (k + m) cap))) :
    WL P ops Q w0 H (⟨some d, .call { callee := .builtin .append, args := #[s, x], argTypes := #[t, t] }, ty, pos, af, none⟩ :: rest) n F :=
  lapp (A1 ++ A2) B oe hT (by rw [hH, List.append_assoc]) hs hown hx hl hnews h1 hm h63 hby (fun g cap oe' ho => by rw [List.append_assoc]; exact h g cap oe' ho)
end
section
variable {P : Program} {C : World → Prop} {ρ : Operand → Value} {d : Option Tmp} {ty : TypeId} {pos : String} {af : Array Edge} {g : Option (Nat × Bool)}
theorem min2n {x y : Operand} {k : IntKind} {a b : Nat} {ats : Array TypeId} (hx : ρ x = .int k (a : Int)) (hy : ρ y = .int k (b : Int)) :
    Qu P C ρ ⟨d, .call { callee := .builtin .min, args := #[x, y], argTypes := ats }, ty, pos, af, g⟩ (.int k ((min a b : Nat) : Int)) := by
  have := min2 (P := P) (C := C) (d := d) (ty := ty) (pos := pos) (af := af) (g := g) (ats := ats) hx hy
  rwa [show min (a : Int) (b : Int) = ((min a b : Nat) : Int) from by omega] at this
theorem OwnL_cap {e : TypeId} {size : Nat} {p : Option Addr} {n c : Nat} {xs : List Value} {oe : List Ent} (h : OwnL e size (.slice p n c) n xs oe) : n ≤ c ∧ (p = none ∨ ∃ b o, p = some ⟨b, o, none⟩) := by
  rcases h.2 with ⟨h1, h2, _⟩ | ⟨g, cap, cur, h1, _, h3, _⟩
  · cases h1; exact ⟨by omega, .inl rfl⟩
  · cases h1; exact ⟨h3, .inr ⟨_, _, rfl⟩⟩
theorem SlIn.le {H : List Ent} {p : Option Addr} {n m sz : Nat} {el : Nat → List Value} (h : SlIn H p n sz el) (hm : m ≤ n) : SlIn H p m sz el := by
  rcases h with h | ⟨e, he, hp, h⟩
  · exact .inl (by omega)
  · exact .inr ⟨e, he, hp, fun i hi => h i (by omega)⟩
/-- a slice cut at an upper bound -/
theorem slhi {t e : TypeId} {sz : Nat} {x y : Operand} {p : Option Addr} {n c m : Nat} {k : IntKind} (hu : P.underlying t = some (.slice e)) (hs : ∀ w, (Go.sizeOf e).run P w = .ok sz w) (hx : ρ x = .slice p n c) (hy : ρ y = .int k (m : Int)) (hm : m ≤ c)
    (hp : p = none ∨ ∃ b o, p = some ⟨b, o, none⟩) : Qu P C ρ ⟨d, .slice t x none (some y) none, ty, pos, af, g⟩ (.slice p m c) :=
  qu_of_run fun w _ => by
    have hb : (Instr.sliceBound (.int k (m : Int)) c .sliceAcap).run P w = .ok m w := by
      have : (0 : Int) ≤ m ∧ (m : Int) ≤ c := by omega
      simp [Instr.sliceBound, asIntOf, hm]
    have hadd : p.map (fun a => a.add 0) = p := by
      rcases hp with rfl | ⟨b, o, rfl⟩
      · rfl
      · simp [Addr.add]
    by_cases hc : c = 0
    · subst hc
      simp [execOp, hx, hy, Instr.sliceAt, Instr.slice, Instr.sliceBounds, run_underlying hu, hs, hb]
    · simp [execOp, hx, hy, Instr.sliceAt, Instr.slice, Instr.sliceBounds, run_underlying hu, hs, hb, hc, hadd]
end
end Jal
