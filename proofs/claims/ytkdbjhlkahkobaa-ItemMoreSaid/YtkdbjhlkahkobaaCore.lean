/- A way to walk: frames as functions, own blocks as a list, one law an operation. -/
import Derived.WalkKit
import Derived.Deep.Quiet
import Derived.LoopN
namespace Jal
open Go Go.RowKit

/-! ### frames -/
def upd (F : Nat → Value) (d : Nat) (v : Value) : Nat → Value := fun t => bif Nat.beq t d then v else F t
def fr (n : Nat) (F : Nat → Value) : Act := ⟨((List.range n).map F).toArray, []⟩
def ev (n : Nat) (F : Nat → Value) : Operand → Value
  | .tmp t => bif Nat.blt t n then F t else undef
  | .const v => v
  | .global g => .pointer (some ⟨g, 0, none⟩)
  | .func f => .func (.func f) #[] #[]
theorem blt_iff (a b : Nat) : Nat.blt a b = decide (a < b) := by
  unfold Nat.blt
  by_cases h : a < b
  · rw [decide_eq_true h]; exact Nat.ble_eq_true_of_le h
  · rw [decide_eq_false h]; exact Bool.eq_false_iff.2 (fun e => h (Nat.le_of_ble_eq_true e))
theorem fr_get (n : Nat) (F : Nat → Value) (t : Nat) : (fr n F).tmps[t]? = if t < n then some (F t) else none := by
  simp only [fr, List.getElem?_toArray, List.getElem?_map]
  by_cases h : t < n
  · rw [List.getElem?_range h, if_pos h]; rfl
  · rw [if_neg h, List.getElem?_eq_none (by simpa using h)]; rfl
theorem fr_eval (n : Nat) (F : Nat → Value) : (fr n F).eval = ev n F := by
  funext x
  cases x with
  | tmp t =>
    show (fr n F).tmps.getD t undef = _
    rw [Array.getD_eq_getD_getElem?, fr_get]
    simp only [ev, blt_iff]
    by_cases h : t < n <;> simp [h]
  | _ => rfl
theorem fr_put (n : Nat) (F : Nat → Value) (d : Nat) (v : Value) : (fr n F).put (some d) v = fr n (upd F d v) := by
  show Act.mk _ _ = Act.mk _ _
  congr 1
  apply Array.ext_getElem?
  intro t
  rw [Array.getElem?_setIfInBounds]
  have h1 := fr_get n F t
  have h2 := fr_get n (upd F d v) t
  have hs : (fr n F).tmps.size = n := by simp [fr]
  simp only [h1, hs]
  rw [show ((List.range n).map (upd F d v)).toArray[t]? = (fr n (upd F d v)).tmps[t]? from rfl, h2]
  by_cases e : d = t
  · subst e
    by_cases hn : d < n <;> simp [hn, upd]
  · have e' : Nat.beq t d = false := by
      cases hb : Nat.beq t d with
      | false => rfl
      | true => exact absurd (Nat.eq_of_beq_eq_true hb).symm e
    by_cases hn : t < n <;> simp [hn, upd, e, e']
theorem fr_put_none (n : Nat) (F : Nat → Value) (v : Value) : (fr n F).put none v = fr n F := rfl

/-- a value that is there where g is true -/
def gv (g : Bool) (v : Value) : Value := bif g then v else undef
theorem gvt {g : Bool} {v : Value} (h : g = true) : gv g v = v := by subst h; rfl
attribute [irreducible] gv

theorem ri {x : Int} (h : -9223372036854775808 ≤ x) (h' : x ≤ 9223372036854775807) : IntKind.i64.wrap x = x := by
  simp [IntKind.wrap, IntKind.signed, IntKind.bits]; omega
theorem ru {x : Int} (h : 0 ≤ x) (h' : x ≤ 18446744073709551615) : IntKind.u64.wrap x = x := by
  simp [IntKind.wrap, IntKind.signed, IntKind.bits]; omega
theorem al {a b : Bool} (h : (a && b) = true) : a = true := by cases a <;> simp_all
theorem al2 {a b : Bool} (h : (a && b) = true) : b = true := by cases a <;> simp_all
theorem df2 {a b : Int} (h : decide (a ≠ b) = false) : a = b := by simpa using h
theorem nn {b : Bool} {c : Bool} (h : (!b) = c) : b = !c := by cases b <;> cases c <;> simp_all
theorem gva {g x : Bool} {v : Value} (h : g = true) : gv (g && x) v = gv x v := by subst h; rfl
theorem one1 {v : Value} (h : v.oneCell' = true) : ∀ u ∈ [v], u.oneCell' = true := by intro u hu; obtain rfl := List.mem_singleton.1 hu; exact h
theorem oneA {vs : List Value} (h : vs.all (·.oneCell') = true) : ∀ u ∈ vs, u.oneCell' = true := fun u hu => List.all_eq_true.1 h u hu
theorem lb {a b : Nat} (h : Nat.ble a b = true) : a ≤ b := Nat.le_of_ble_eq_true h
/-- an array of n numbers of one kind -/
def arr (k : IntKind) (n : Nat) (f : Nat → Int) : List Value := (List.range n).map fun i => .int k (f i)
def barr (n : Nat) (f : Nat → Bool) : List Value := (List.range n).map fun i => .bool (f i)
theorem bt {v : Value} {b : Bool} (h : v = .bool b) (hb : b = true) : v = .bool true := by rw [h, hb]
theorem bf {v : Value} {b : Bool} (h : v = .bool b) (hb : b = false) : v = .bool false := by rw [h, hb]
theorem btn {v : Value} {b : Bool} (h : v = .bool (!b)) (hb : b = false) : v = .bool true := by rw [h, hb]; rfl
theorem bfn {v : Value} {b : Bool} (h : v = .bool (!b)) (hb : b = true) : v = .bool false := by rw [h, hb]; rfl
theorem orf {a b : Bool} (h : (!a || !b) = false) : a = true ∧ b = true := by cases a <;> cases b <;> simp_all
theorem dt {p : Prop} [Decidable p] (h : decide p = true) : p := of_decide_eq_true h
theorem df {p : Prop} [Decidable p] (h : decide p = false) : ¬ p := of_decide_eq_false h
/-! ### worlds -/
structure Ent where
  b : Nat
  cs : List Value
  t : TypeId
/-- Below the first world's size all is as it was; the own blocks hold these cells. -/
structure Sat (w0 : World) (H : List Ent) (w : World) : Prop where
  below : Below w0.heap.size w0 w
  own : ∀ e ∈ H, w0.heap.size ≤ e.b ∧ w.heap[e.b]? = some (.cells e.cs.toArray e.t (0, 0))
  apart : H.Pairwise (fun x y => x.b ≠ y.b)
def Ret (v : Value) (w : World) : Ending → World → Prop := fun e w' => e = .returned v ∧ Below w.heap.size w w'

theorem Sat.start (w : World) : Sat w [] w := ⟨Below.refl _ _, fun _ h => absurd h (by simp), .nil⟩
theorem Sat.drew {w0 H w} (h : Sat w0 H w) : Sat w0 H w.drew := ⟨h.below.drew, h.own, h.apart⟩
theorem Sat.size {w0 H w} (h : Sat w0 H w) : w0.heap.size ≤ w.heap.size := h.below.size
theorem Sat.lt {w0 H w} (h : Sat w0 H w) {e : Ent} (he : e ∈ H) : e.b < w.heap.size := (Array.getElem?_eq_some_iff.1 (h.own e he).2).1
theorem Sat.step {w0 H w w'} (h : Sat w0 H w) (hb : Below w.heap.size w w') : Sat w0 H w' :=
  ⟨h.below.trans (hb.mono h.size), fun e he => ⟨(h.own e he).1, (hb.block e.b (h.lt he)).trans (h.own e he).2⟩, h.apart⟩
theorem Sat.alloc {w0 H w} (h : Sat w0 H w) (cs : List Value) (t : TypeId) : Sat w0 (H ++ [⟨w.heap.size, cs, t⟩]) (w.alloc (.cells cs.toArray t)) := by
  have hb : Below w.heap.size w (w.alloc (.cells cs.toArray t)) := (Below.refl _ _).alloc (Nat.le_refl _) _
  have h1 := h.step hb
  refine ⟨h1.below, fun e he => ?_, ?_⟩
  · rcases List.mem_append.1 he with he | he
    · exact h1.own e he
    · obtain rfl := List.mem_singleton.1 he
      exact ⟨h.size, heap_alloc_new w _⟩
  · refine List.pairwise_append.2 ⟨h.apart, by simp, fun x hx y hy => ?_⟩
    obtain rfl := List.mem_singleton.1 hy
    have := h.lt hx
    simp; omega
theorem Sat.sub {w0 H H' w} (h : Sat w0 H w) (hs : H'.Sublist H) : Sat w0 H' w := ⟨h.below, fun e he => h.own e (hs.subset he), h.apart.sublist hs⟩

/-- the cells from an address on -/
def Mem (w : World) (a : Addr) (cs : List Value) : Prop := ∀ i v, cs[i]? = some v → w.cell? (a.add i) = some v
theorem Addr.add_off (b o i : Nat) : (⟨b, o, none⟩ : Addr).add i = ⟨b, o + i, none⟩ := by
  unfold Addr.add; split <;> simp_all
theorem Sat.mem {w0 H w} (h : Sat w0 H w) {i : Nat} {e : Ent} (hi : H[i]? = some e) (o : Nat) : Mem w ⟨e.b, o, none⟩ (e.cs.drop o) := by
  intro j v hv
  rw [Addr.add_off]
  have := (h.own e (List.mem_of_getElem? hi)).2
  simp only [World.cell?, this]
  simpa [List.getElem?_drop] using hv
theorem Sat.cell {w0 H w} (h : Sat w0 H w) {i : Nat} {e : Ent} (hi : H[i]? = some e) {o : Nat} {v : Value} (hv : e.cs[o]? = some v) : w.cell? ⟨e.b, o, none⟩ = some v := by
  have := (h.own e (List.mem_of_getElem? hi)).2
  simp only [World.cell?, this]
  simpa using hv
theorem Mem.kept {B w w' a cs} (h : Mem w a cs) (hb : Below B w w') (ha : a.block < B) : Mem w' a cs := fun i v hv => by
  have hbl : (a.add i).block = a.block := by unfold Addr.add; split <;> rfl
  rw [hb.cell (by rw [hbl]; exact ha)]; exact h i v hv

/-- a slice of n elements of sz cells each, in memory that was there -/
structure Sl (w0 : World) (p : Option Addr) (n sz : Nat) (el : Nat → List Value) : Prop where
  h : n = 0 ∨ ∃ b o, p = some ⟨b, o, none⟩ ∧ b < w0.heap.size ∧ ∀ i, i < n → Mem w0 ⟨b, o + i * sz, none⟩ (el i)
theorem Sl.at {w0 : World} {p : Option Addr} {n sz : Nat} {el : Nat → List Value} (h : Sl w0 p n sz el) {i : Nat} (hi : i < n) :
    ∃ b o, p = some ⟨b, o, none⟩ ∧ b < w0.heap.size ∧ ∀ i, i < n → Mem w0 ⟨b, o + i * sz, none⟩ (el i) := by
  rcases h.h with h | h
  · omega
  · exact h
/-! ### quiet operations -/
def Qu (P : Program) (C : World → Prop) (ρ : Operand → Value) (o : Oper) (v : Value) : Prop := ∀ w, C w → Oper.quietUpon P C w v ((execOp ρ o).run P w)

section
variable {P : Program} {C : World → Prop} {ρ : Operand → Value} {d : Option Tmp} {ty : TypeId} {pos : String} {af : Array Edge} {g : Option (Nat × Bool)}

theorem qu_of_run {o : Oper} {v : Value} (h : ∀ w, C w → (execOp ρ o).run P w = .ok (.value v) w) : Qu P C ρ o v := fun w hw => by rw [h w hw]; exact ⟨rfl, rfl⟩
theorem mv {x : Operand} {v : Value} (h : ρ x = v) : Qu P C ρ ⟨d, .move x, ty, pos, af, g⟩ v := qu_of_run fun w _ => by subst h; rfl
theorem asg {x : Operand} {v : Value} (h : ρ x = v) : Qu P C ρ ⟨d, .assign x, ty, pos, af, g⟩ v := qu_of_run fun w _ => by subst h; rfl
theorem mvi {x : Operand} {k : IntKind} {a : Int} (h : ρ x = .int k a) : Qu P C ρ ⟨d, .move x, ty, pos, af, g⟩ (.int k a) := mv h
theorem asgi {x : Operand} {k : IntKind} {a : Int} (h : ρ x = .int k a) : Qu P C ρ ⟨d, .assign x, ty, pos, af, g⟩ (.int k a) := asg h
theorem mvb {x : Operand} {a : Bool} (h : ρ x = .bool a) : Qu P C ρ ⟨d, .move x, ty, pos, af, g⟩ (.bool a) := mv h
theorem asgb {x : Operand} {a : Bool} (h : ρ x = .bool a) : Qu P C ρ ⟨d, .assign x, ty, pos, af, g⟩ (.bool a) := asg h
theorem mva {x : Operand} {cs : List Value} (h : ρ x = .agg cs.toArray) : Qu P C ρ ⟨d, .move x, ty, pos, af, g⟩ (.agg cs.toArray) := mv h
theorem asga {x : Operand} {cs : List Value} (h : ρ x = .agg cs.toArray) : Qu P C ρ ⟨d, .assign x, ty, pos, af, g⟩ (.agg cs.toArray) := asg h
theorem mvs {x : Operand} {p : Option Addr} {n c : Nat} (h : ρ x = .slice p n c) : Qu P C ρ ⟨d, .move x, ty, pos, af, g⟩ (.slice p n c) := mv h
theorem asgs {x : Operand} {p : Option Addr} {n c : Nat} (h : ρ x = .slice p n c) : Qu P C ρ ⟨d, .assign x, ty, pos, af, g⟩ (.slice p n c) := asg h
theorem mvt {x : Operand} {a : ByteArray} (h : ρ x = .string a) : Qu P C ρ ⟨d, .move x, ty, pos, af, g⟩ (.string a) := mv h
theorem asgt {x : Operand} {a : ByteArray} (h : ρ x = .string a) : Qu P C ρ ⟨d, .assign x, ty, pos, af, g⟩ (.string a) := asg h
theorem mvf {x : Operand} {f : Fn} {x1 x2 : Array Value} (h : ρ x = .func f x1 x2) : Qu P C ρ ⟨d, .move x, ty, pos, af, g⟩ (.func f x1 x2) := mv h
theorem asgf {x : Operand} {f : Fn} {x1 x2 : Array Value} (h : ρ x = .func f x1 x2) : Qu P C ρ ⟨d, .assign x, ty, pos, af, g⟩ (.func f x1 x2) := asg h
theorem mvm {x : Operand} {r : Option Nat} (h : ρ x = .map r) : Qu P C ρ ⟨d, .move x, ty, pos, af, g⟩ (.map r) := mv h
theorem asgm {x : Operand} {r : Option Nat} (h : ρ x = .map r) : Qu P C ρ ⟨d, .assign x, ty, pos, af, g⟩ (.map r) := asg h
/-- pick over bools -/
theorem pk {c a b : Operand} {x y z : Bool} (hc : ρ c = .bool x) (ha : ρ a = .bool y) (hb : ρ b = .bool z) : Qu P C ρ ⟨d, .pick c a b, ty, pos, af, g⟩ (.bool (bif x then y else z)) :=
  qu_of_run fun w _ => by
    simp only [execOp, hc, ha, hb, asBool]
    cases x <;> rfl
theorem pk_and {c a b : Operand} {x y : Bool} (hc : ρ c = .bool x) (ha : ρ a = gv x (.bool y)) (hb : ρ b = .bool false) : Qu P C ρ ⟨d, .pick c a b, ty, pos, af, g⟩ (.bool (x && y)) :=
  qu_of_run fun w _ => by
    simp only [execOp, hc, ha, hb, asBool]
    cases x
    · rfl
    · rw [gvt rfl]; rfl
theorem pk_or {c a b : Operand} {x y : Bool} (hc : ρ c = .bool x) (ha : ρ a = .bool true) (hb : ρ b = gv (!x) (.bool y)) : Qu P C ρ ⟨d, .pick c a b, ty, pos, af, g⟩ (.bool (x || y)) :=
  qu_of_run fun w _ => by
    simp only [execOp, hc, ha, hb, asBool]
    cases x
    · rw [show gv (!false) (Value.bool y) = .bool y from gvt rfl]; rfl
    · rfl

section ints
variable {x y : Operand} {k : IntKind} {a b : Int} {t t' : TypeId}
theorem lss (hx : ρ x = .int k a) (hy : ρ y = .int k b) : Qu P C ρ ⟨d, .binOp .lss t x y t', ty, pos, af, g⟩ (.bool (decide (a < b))) :=
  qu_of_run fun w _ => by simp [execOp, hx, hy, binOp, eqGuard, Op.intCmp]
theorem leq (hx : ρ x = .int k a) (hy : ρ y = .int k b) : Qu P C ρ ⟨d, .binOp .leq t x y t', ty, pos, af, g⟩ (.bool (decide (a ≤ b))) :=
  qu_of_run fun w _ => by simp [execOp, hx, hy, binOp, eqGuard, Op.intCmp]
theorem gtr (hx : ρ x = .int k a) (hy : ρ y = .int k b) : Qu P C ρ ⟨d, .binOp .gtr t x y t', ty, pos, af, g⟩ (.bool (decide (a > b))) :=
  qu_of_run fun w _ => by simp [execOp, hx, hy, binOp, eqGuard, Op.intCmp]
theorem geq (hx : ρ x = .int k a) (hy : ρ y = .int k b) : Qu P C ρ ⟨d, .binOp .geq t x y t', ty, pos, af, g⟩ (.bool (decide (a ≥ b))) :=
  qu_of_run fun w _ => by simp [execOp, hx, hy, binOp, eqGuard, Op.intCmp]
theorem eqg_int (op : BinOp) (w : World) : (eqGuard op t x y (.int k a) (.int k b)).run P w = .ok () w := by cases op <;> rfl
theorem eql (hx : ρ x = .int k a) (hy : ρ y = .int k b) : Qu P C ρ ⟨d, .binOp .eql t x y t', ty, pos, af, g⟩ (.bool (decide (a = b))) :=
  qu_of_run fun w _ => by
    simp only [execOp, hx, hy, Sem.run_bind, eqg_int, Result.andThen_ok, binOp]
    rw [if_neg (by simp)]; rfl
theorem neq (hx : ρ x = .int k a) (hy : ρ y = .int k b) : Qu P C ρ ⟨d, .binOp .neq t x y t', ty, pos, af, g⟩ (.bool (decide (a ≠ b))) :=
  qu_of_run fun w _ => by
    simp only [execOp, hx, hy, Sem.run_bind, eqg_int, Result.andThen_ok, binOp]
    simp [Op.intCmp, bne]; rfl
theorem add (hx : ρ x = .int k a) (hy : ρ y = .int k b) : Qu P C ρ ⟨d, .binOp .add t x y t', ty, pos, af, g⟩ (.int k (k.wrap (a + b))) :=
  qu_of_run fun w _ => by simp [execOp, hx, hy, binOp, eqGuard, Op.intArith]
theorem sub (hx : ρ x = .int k a) (hy : ρ y = .int k b) : Qu P C ρ ⟨d, .binOp .sub t x y t', ty, pos, af, g⟩ (.int k (k.wrap (a - b))) :=
  qu_of_run fun w _ => by simp [execOp, hx, hy, binOp, eqGuard, Op.intArith]
theorem mul (hx : ρ x = .int k a) (hy : ρ y = .int k b) : Qu P C ρ ⟨d, .binOp .mul t x y t', ty, pos, af, g⟩ (.int k (k.wrap (a * b))) :=
  qu_of_run fun w _ => by simp [execOp, hx, hy, binOp, eqGuard, Op.intArith]
end ints
/-- sums that stay in range -/
theorem addn {x y : Operand} {k : IntKind} {a b : Int} {t t' : TypeId} (hx : ρ x = .int k a) (hy : ρ y = .int k b) (hr : k.wrap (a + b) = a + b) : Qu P C ρ ⟨d, .binOp .add t x y t', ty, pos, af, g⟩ (.int k (a + b)) := by
  have := add (P := P) (C := C) (d := d) (ty := ty) (pos := pos) (af := af) (g := g) (t := t) (t' := t') hx hy
  rwa [hr] at this
theorem subn {x y : Operand} {k : IntKind} {a b : Int} {t t' : TypeId} (hx : ρ x = .int k a) (hy : ρ y = .int k b) (hr : k.wrap (a - b) = a - b) : Qu P C ρ ⟨d, .binOp .sub t x y t', ty, pos, af, g⟩ (.int k (a - b)) := by
  have := sub (P := P) (C := C) (d := d) (ty := ty) (pos := pos) (af := af) (g := g) (t := t) (t' := t') hx hy
  rwa [hr] at this
theorem pk_and0 {c a b : Operand} {x y : Bool} (hc : ρ c = .bool x) (ha : ρ a = .bool y) (hb : ρ b = .bool false) : Qu P C ρ ⟨d, .pick c a b, ty, pos, af, g⟩ (.bool (x && y)) := by
  have := pk (P := P) (C := C) (d := d) (ty := ty) (pos := pos) (af := af) (g := g) hc ha hb
  rwa [show (bif x then y else false) = (x && y) from by cases x <;> rfl] at this
theorem pk_or0 {c a b : Operand} {x y : Bool} (hc : ρ c = .bool x) (ha : ρ a = .bool true) (hb : ρ b = .bool y) : Qu P C ρ ⟨d, .pick c a b, ty, pos, af, g⟩ (.bool (x || y)) := by
  have := pk (P := P) (C := C) (d := d) (ty := ty) (pos := pos) (af := af) (g := g) hc ha hb
  rwa [show (bif x then true else y) = (x || y) from by cases x <;> rfl] at this
theorem nt {t : TypeId} {x : Operand} {b : Bool} (hx : ρ x = .bool b) : Qu P C ρ ⟨d, .unOp .not t x, ty, pos, af, g⟩ (.bool (!b)) :=
  qu_of_run fun w _ => by simp [execOp, hx, Op.unary]

theorem run_eqb (n : Nat) {t : TypeId} {a b : Bool} (hu : P.underlying t = some .bool) (w : World) : (Op.equalIn (n + 1) t (.bool a) (.bool b)).run P w = .ok (a == b) w := by
  simp [Op.equalIn, run_underlying hu]
theorem eqlb {x y : Operand} {t t' : TypeId} {a b : Bool} (hu : P.underlying t = some .bool) (hx : ρ x = .bool a) (hy : ρ y = .bool b) :
    Qu P C ρ ⟨d, .binOp .eql t x y t', ty, pos, af, g⟩ (.bool (a == b)) :=
  qu_of_run fun w _ => by
    have h : (Op.equal t (.bool a) (.bool b)).run P w = .ok (a == b) w := run_eqb 9999 hu w
    simp only [execOp, hx, hy]
    show (Sem.run P (do (pure () : Sem Unit); let v ← (do pure (Value.bool (← Op.equal t (.bool a) (.bool b)))); pure (Next.value v)) w) = _
    simp [h]
theorem neqb {x y : Operand} {t t' : TypeId} {a b : Bool} (hu : P.underlying t = some .bool) (hx : ρ x = .bool a) (hy : ρ y = .bool b) :
    Qu P C ρ ⟨d, .binOp .neq t x y t', ty, pos, af, g⟩ (.bool (!(a == b))) :=
  qu_of_run fun w _ => by
    have h : (Op.equal t (.bool a) (.bool b)).run P w = .ok (a == b) w := run_eqb 9999 hu w
    simp only [execOp, hx, hy]
    show (Sem.run P (do (pure () : Sem Unit); let v ← (do pure (Value.bool (!(← Op.equal t (.bool a) (.bool b))))); pure (Next.value v)) w) = _
    simp [h]
theorem eqls {x y : Operand} {t t' : TypeId} {a b : ByteArray} (hx : ρ x = .string a) (hy : ρ y = .string b) :
    Qu P C ρ ⟨d, .binOp .eql t x y t', ty, pos, af, g⟩ (.bool (a.toList == b.toList)) :=
  qu_of_run fun w _ => by simp [execOp, hx, hy, binOp, eqGuard, Op.stringOp]
theorem neqs {x y : Operand} {t t' : TypeId} {a b : ByteArray} (hx : ρ x = .string a) (hy : ρ y = .string b) :
    Qu P C ρ ⟨d, .binOp .neq t x y t', ty, pos, af, g⟩ (.bool !(a.toList == b.toList)) :=
  qu_of_run fun w _ => by simp [execOp, hx, hy, binOp, eqGuard, Op.stringOp]
theorem geqs {x y : Operand} {t t' : TypeId} {a b : ByteArray} (hx : ρ x = .string a) (hy : ρ y = .string b) :
    Qu P C ρ ⟨d, .binOp .geq t x y t', ty, pos, af, g⟩ (.bool !(Op.bytesLess a.toList b.toList)) :=
  qu_of_run fun w _ => by simp [execOp, hx, hy, binOp, eqGuard, Op.stringOp]
theorem leqs {x y : Operand} {t t' : TypeId} {a b : ByteArray} (hx : ρ x = .string a) (hy : ρ y = .string b) :
    Qu P C ρ ⟨d, .binOp .leq t x y t', ty, pos, af, g⟩ (.bool (Op.bytesLess a.toList b.toList || a.toList == b.toList)) :=
  qu_of_run fun w _ => by simp [execOp, hx, hy, binOp, eqGuard, Op.stringOp]
/-- an equality of structs or arrays, by its run -/
theorem eqla {x y : Operand} {t t' : TypeId} {u v : Value} {b : Bool} (hx : ρ x = u) (hy : ρ y = v)
    (hr : ∀ w, (do eqGuard .eql t x y u v; binOp .eql t u v).run P w = .ok (.bool b) w) : Qu P C ρ ⟨d, .binOp .eql t x y t', ty, pos, af, g⟩ (.bool b) :=
  qu_of_run fun w _ => by
    have h := hr w
    simp only [execOp, hx, hy]
    rw [Sem.run_bind, h]; rfl
theorem neqa {x y : Operand} {t t' : TypeId} {u v : Value} {b : Bool} (hx : ρ x = u) (hy : ρ y = v)
    (hr : ∀ w, (do eqGuard .neq t x y u v; binOp .neq t u v).run P w = .ok (.bool b) w) : Qu P C ρ ⟨d, .binOp .neq t x y t', ty, pos, af, g⟩ (.bool b) :=
  qu_of_run fun w _ => by
    have h := hr w
    simp only [execOp, hx, hy]
    rw [Sem.run_bind, h]; rfl

/-- a field's place -/
structure FieldAt (P : Program) (s : TypeId) (f : Nat) (off : Nat) : Prop where
  h : ∃ fs fd k, P.underlying s = some (.struct fs) ∧ fs[f]? = some fd ∧ fd.offset = off ∧ (∀ w, (Go.sizeOf fd.type).run P w = .ok (k + 1) w)
theorem fa {s : TypeId} {x : Operand} {f off b o : Nat} (hf : FieldAt P s f off) (hx : ρ x = .pointer (some ⟨b, o, none⟩)) :
    Qu P C ρ ⟨d, .fieldAddr s x f, ty, pos, af, g⟩ (.pointer (some ⟨b, o + off, none⟩)) :=
  qu_of_run fun w _ => by
    obtain ⟨fs, fd, k, hu, hfd, ho, hk⟩ := hf.h
    simp [execOp, hx, Instr.fieldAt, run_underlying hu, hfd, Instr.sureAddr, fieldPlace, hk, Addr.add_off, ho]
/-- an array of 'len' elements of 'sz' cells -/
structure ArrT (P : Program) (t : TypeId) (len sz : Nat) : Prop where
  h : ∃ e, P.underlying t = some (.array len e) ∧ (∀ w, (Go.sizeOf e).run P w = .ok sz w)
structure SliT (P : Program) (t : TypeId) (sz : Nat) : Prop where
  h : ∃ e, P.underlying t = some (.slice e) ∧ (∀ w, (Go.sizeOf e).run P w = .ok sz w)
theorem ia {t : TypeId} {x ix : Operand} {len sz b o : Nat} {k : IntKind} {i : Int} (ht : ArrT P t len sz) (hx : ρ x = .pointer (some ⟨b, o, none⟩)) (hi : ρ ix = .int k i)
    (h0 : 0 ≤ i) (h1 : i < len) : Qu P C ρ ⟨d, .indexAddr t x ix, ty, pos, af, g⟩ (.pointer (some ⟨b, o + i.toNat * sz, none⟩)) :=
  qu_of_run fun w _ => by
    obtain ⟨e, hu, hk⟩ := ht.h
    simp [execOp, hx, hi, Instr.indexAt, asIntOf, run_underlying hu, Instr.sureAddr, h0, h1, hk, Addr.add_off]
theorem is {t : TypeId} {x ix : Operand} {sz n c b o : Nat} {k : IntKind} {i : Int} (ht : SliT P t sz) (hx : ρ x = .slice (some ⟨b, o, none⟩) n c) (hi : ρ ix = .int k i)
    (h0 : 0 ≤ i) (h1 : i < n) : Qu P C ρ ⟨d, .indexAddr t x ix, ty, pos, af, g⟩ (.pointer (some ⟨b, o + i.toNat * sz, none⟩)) :=
  qu_of_run fun w _ => by
    obtain ⟨e, hu, hk⟩ := ht.h
    simp [execOp, hx, hi, Instr.indexAt, asIntOf, run_underlying hu, h0, h1, hk, Addr.add_off]
/-- a part of an array's value, an element of one cell -/
theorem ixv {t : TypeId} {x ix : Operand} {len : Nat} {cs : List Value} {k : IntKind} {i : Int} {v : Value} {e : TypeId} (hu : P.underlying t = some (.array len e))
    (hs : ∀ w, (Go.sizeOf e).run P w = .ok 1 w) (ha : ∀ w, (isAgg e).run P w = .ok false w) (hx : ρ x = .agg cs.toArray) (hi : ρ ix = .int k i)
    (h0 : 0 ≤ i) (h1 : i < len) (hv : cs[i.toNat]? = some v) : Qu P C ρ ⟨d, .index t x ix, ty, pos, af, g⟩ v :=
  qu_of_run fun w _ => by
    simp [execOp, hx, hi, Instr.index, asIntOf, run_underlying hu, h0, h1, hs, part, ha, hv]
theorem ext {x : Operand} {i : Nat} {vs : List Value} {v : Value} (hx : ρ x = .tuple vs.toArray) (hv : vs[i]? = some v) : Qu P C ρ ⟨d, .extract x i, ty, pos, af, g⟩ v :=
  qu_of_run fun w _ => by simp [execOp, hx, Instr.extract, hv]
theorem bld0 {t : TypeId} {zs : List Value} (hr : ∀ w, (Instr.build t #[]).run P w = .ok (.agg zs.toArray) w) : Qu P C ρ ⟨d, .build t #[], ty, pos, af, g⟩ (.agg zs.toArray) :=
  qu_of_run fun w _ => by simp [execOp, hr]
theorem isp {t : TypeId} {x ix : Operand} {sz n c b o : Nat} {k : IntKind} {i : Int} {p : Option Addr} (ht : SliT P t sz) (hp : p = some ⟨b, o, none⟩) (hx : ρ x = .slice p n c) (hi : ρ ix = .int k i)
    (h0 : 0 ≤ i) (h1 : i < n) : Qu P C ρ ⟨d, .indexAddr t x ix, ty, pos, af, g⟩ (.pointer (some ⟨b, o + i.toNat * sz, none⟩)) := by
  subst hp; exact is ht hx hi h0 h1
/-- a load of one cell out of an own block -/
theorem ldc {w0 : World} {H : List Ent} (i : Nat) {t : TypeId} {x : Operand} {e : Ent} {o : Nat} {v : Value} (ha : ∀ w, (isAgg t).run P w = .ok false w)
    (hi : H[i]? = some e) (hx : ρ x = .pointer (some ⟨e.b, o, none⟩)) (hv : e.cs[o]? = some v) : Qu P (Sat w0 H) ρ ⟨d, .load t x, ty, pos, af, g⟩ v :=
  qu_of_run fun w hw => by
    have hc := hw.cell hi hv
    simp [execOp, hx, Instr.loadAt, Instr.sureAddr, loadVar, ha, load, Sem.run, hc]
/-- a load of some cells out of an own block -/
theorem lda {w0 : World} {H : List Ent} (i : Nat) {t : TypeId} {x : Operand} {e : Ent} {o k : Nat} {vs : List Value} (ha : ∀ w, (isAgg t).run P w = .ok true w)
    (hk : ∀ w, (Go.sizeOf t).run P w = .ok k w)
    (hi : H[i]? = some e) (hx : ρ x = .pointer (some ⟨e.b, o, none⟩)) (hv : (e.cs.drop o).take k = vs) (hl : vs.length = k) : Qu P (Sat w0 H) ρ ⟨d, .load t x, ty, pos, af, g⟩ (.agg vs.toArray) :=
  qu_of_run fun w hw => by
    have hm := hw.mem hi o
    have hr := run_loadCells_list (P := P) w ⟨e.b, o, none⟩ vs (fun j v hj => hm j v (by
      subst hv; rw [List.getElem?_take] at hj; split at hj
      · exact hj
      · cases hj))
    rw [hl] at hr
    simp [execOp, hx, Instr.loadAt, Instr.sureAddr, loadVar, ha, hk, hr]
theorem ldw {w0 : World} {H : List Ent} (i : Nat) {t : TypeId} {x : Operand} {e : Ent} {k : Nat} (ha : ∀ w, (isAgg t).run P w = .ok true w)
    (hk : ∀ w, (Go.sizeOf t).run P w = .ok k w) (hi : H[i]? = some e) (hx : ρ x = .pointer (some ⟨e.b, 0, none⟩)) (hl : e.cs.length = k) : Qu P (Sat w0 H) ρ ⟨d, .load t x, ty, pos, af, g⟩ (.agg e.cs.toArray) :=
  lda i ha hk hi hx (by rw [List.drop_zero, ← hl, List.take_length]) hl
/-- loads from memory of which the class tells -/
theorem ldm {t : TypeId} {x : Operand} {p : Addr} {v : Value} (ha : ∀ w, (isAgg t).run P w = .ok false w) (hx : ρ x = .pointer (some p)) (hv : ∀ w, C w → w.cell? p = some v) :
    Qu P C ρ ⟨d, .load t x, ty, pos, af, g⟩ v :=
  qu_of_run fun w hw => by simp [execOp, hx, Instr.loadAt, Instr.sureAddr, loadVar, ha, load, Sem.run, hv w hw]
theorem ldam {t : TypeId} {x : Operand} {p : Addr} {k : Nat} {vs : List Value} (ha : ∀ w, (isAgg t).run P w = .ok true w) (hk : ∀ w, (Go.sizeOf t).run P w = .ok k w)
    (hx : ρ x = .pointer (some p)) (hl : vs.length = k) (hv : ∀ w, C w → Mem w p vs) : Qu P C ρ ⟨d, .load t x, ty, pos, af, g⟩ (.agg vs.toArray) :=
  qu_of_run fun w hw => by
    have hr := run_loadCells_list (P := P) w p vs (hv w hw)
    rw [hl] at hr
    simp [execOp, hx, Instr.loadAt, Instr.sureAddr, loadVar, ha, hk, hr]
theorem lens {t : TypeId} {x : Operand} {a : Option Addr} {n c : Nat} {ats : Array TypeId} {sz : Nat} (ht : SliT P t sz) (hat : ats[0]? = some t) (hx : ρ x = .slice a n c) :
    Qu P C ρ ⟨d, .call { callee := .builtin .len, args := #[x], argTypes := ats }, ty, pos, af, g⟩ (.int .i64 n) :=
  qu_of_run fun w _ => by
    obtain ⟨e, hu, _⟩ := ht.h
    simp [execOp, resolve, invoke, builtin, Builtin.len_, hat, hx, run_underlying hu, goInt]
theorem lenstr {t : TypeId} {x : Operand} {s : ByteArray} {ats : Array TypeId} (ht : P.underlying t = some .string) (hat : ats[0]? = some t) (hx : ρ x = .string s) :
    Qu P C ρ ⟨d, .call { callee := .builtin .len, args := #[x], argTypes := ats }, ty, pos, af, g⟩ (.int .i64 s.size) :=
  qu_of_run fun w _ => by
    simp [execOp, resolve, invoke, builtin, Builtin.len_, hat, hx, run_underlying ht, goInt]
theorem max2 {x y : Operand} {k : IntKind} {a b : Int} {ats : Array TypeId} (hx : ρ x = .int k a) (hy : ρ y = .int k b) :
    Qu P C ρ ⟨d, .call { callee := .builtin .max, args := #[x, y], argTypes := ats }, ty, pos, af, g⟩ (.int k (max a b)) :=
  qu_of_run fun w _ => by
    simp [execOp, resolve, invoke, builtin, Builtin.max_, Builtin.max2, hx, hy, List.foldlM]
    omega
theorem min2 {x y : Operand} {k : IntKind} {a b : Int} {ats : Array TypeId} (hx : ρ x = .int k a) (hy : ρ y = .int k b) :
    Qu P C ρ ⟨d, .call { callee := .builtin .min, args := #[x, y], argTypes := ats }, ty, pos, af, g⟩ (.int k (min a b)) :=
  qu_of_run fun w _ => by
    simp [execOp, resolve, invoke, builtin, Builtin.min_, Builtin.min2, hx, hy, List.foldlM]
    omega
theorem mc {x : Operand} {l : List Operand} {v : Value} {vs : List Value} (h : ρ x = v) (r : l.map ρ = vs) : (x :: l).map ρ = v :: vs := by rw [List.map_cons, h, r]
theorem mn : ([] : List Operand).map ρ = [] := rfl
/-- a call of a Go function that hands back a value and leaves what was -/
structure HasBody (P : Program) (f : FuncId) : Prop where
  h : ∃ fn, P.funcs[f]? = some fn ∧ (fn.name == "runtime.NumGoroutine") = false ∧ fn.body.isSome = true
theorem cl {w0 : World} {H : List Ent} {f : FuncId} {fx : Operand} {xs : List Operand} {ats : Array TypeId} {args : List Value} {v : Value} (hb : HasBody P f) (hfx : ρ fx = .func (.func f) #[] #[])
    (hx : xs.map ρ = args) (hc : ∀ w, Sat w0 H w → Calls P f args.toArray w (Ret v w)) :
    Qu P (Sat w0 H) ρ ⟨d, .call { callee := .value fx, args := xs.toArray, argTypes := ats }, ty, pos, af, g⟩ v := fun w hw => by
  obtain ⟨fn, h1, h2, h3⟩ := hb.h
  obtain ⟨c, hcb⟩ := Option.isSome_iff_exists.1 h3
  have h2' : fn.name ≠ "runtime.NumGoroutine" := by simpa using h2
  have hr : (execOp ρ ⟨d, .call { callee := .value fx, args := xs.toArray, argTypes := ats }, ty, pos, af, g⟩).run P w = .ok (.enter f args.toArray) w := by
    simp [execOp, resolve, hfx, hx, Deferred.ofValue, invoke, callFunc, Sem.run, program, h1, h2', hcb]
  rw [hr]
  exact ⟨rfl, (hc w hw).mono fun e w' h => ⟨h.1, hw.step h.2⟩⟩
end

/-! ### guards -/
def asB : Value → Option Bool
  | .bool b => some b
  | _ => none
/-- a guard's operand v wants 'want' just where g is true -/
def GW (v : Value) (want g : Bool) : Prop := (asB v == some want) = g
theorem gwt {v : Value} {b : Bool} (h : v = .bool b) : GW v true b := by subst h; cases b <;> rfl
theorem gwf {v : Value} {b : Bool} (h : v = .bool b) : GW v false (!b) := by subst h; cases b <;> rfl
theorem asB_gv (g b : Bool) : asB (gv g (.bool b)) = bif g then some b else none := by
  cases g
  · unfold gv; rfl
  · rw [gvt rfl]; rfl
theorem ggt {v : Value} {g b : Bool} (h : v = gv g (.bool b)) : GW v true (g && b) := by
  subst h; unfold GW; rw [asB_gv]; cases g <;> cases b <;> rfl
theorem ggf {v : Value} {g b : Bool} (h : v = gv g (.bool b)) : GW v false (g && !b) := by
  subst h; unfold GW; rw [asB_gv]; cases g <;> cases b <;> rfl
theorem gv_false (v : Value) : gv false v = undef := by unfold gv; rfl
theorem yielded_fr {ops : Array Oper} {n : Nat} {F : Nat → Value} {j dj : Nat} (hj : (ops[j]?).bind (·.dst) = some dj) : yielded ops (fr n F).tmps j = asB (ev n F (.tmp dj)) := by
  unfold yielded
  rw [hj]
  simp only [Option.bind_some, fr_get, ev, blt_iff]
  by_cases h : dj < n
  · simp only [h, if_true, decide_true, cond_true]
    cases F dj <;> rfl
  · simp only [h, if_false, decide_false, cond_false]; rfl
theorem wanted_fr {ops : Array Oper} {n : Nat} {F : Nat → Value} {j dj : Nat} {want g : Bool} {o : Oper} (hgd : o.guard = some (j, want)) (hj : (ops[j]?).bind (·.dst) = some dj)
    (hg : GW (ev n F (.tmp dj)) want g) : Region.wanted o (yielded ops (fr n F).tmps) = g := by
  unfold Region.wanted
  rw [hgd]
  simp only [yielded_fr hj]
  exact hg

/-! ### lists of operations -/
section
variable {P : Program} {ops : Array Oper} {Q : Exit → Act → World → Prop} {w0 : World} {H : List Ent} {rest : List Oper} {n : Nat} {F : Nat → Value} {d : Nat} {op : Op} {ty : TypeId} {pos : String} {af : Array Edge} {v : Value}
def WL (P : Program) (ops : Array Oper) (Q : Exit → Act → World → Prop) (w0 : World) (H : List Ent) (rest : List Oper) (n : Nat) (F : Nat → Value) : Prop :=
  ∀ w, Sat w0 H w → wpList P ops Q rest (fr n F) w
def WQ (P : Program) (ops : Array Oper) (w0 : World) (H : List Ent) (Q : Act → Prop) (rest : List Oper) (n : Nat) (F : Nat → Value) : Prop :=
  wpQuiet P ops (Sat w0 H) Q rest (fr n F)
theorem Qu.wp {o : Oper} {C : World → Prop} {w : World} {K : Act → World → Prop} (hq : Qu P C (ev n F) o v) (hw : C w) (h : ∀ w', C w' → K ((fr n F).put o.dst v) w') : o.wp P (fr n F) w K Q :=
  Oper.wp_of_quiet (C := C) (K := fun a => a = (fr n F).put o.dst v) hw (fun a w' hw' ha => by subst ha; exact h w' hw')
    ⟨v, fun w hw => by unfold Oper.quietAt; rw [fr_eval]; exact hq w hw, rfl⟩
theorem l1 (hq : Qu P (Sat w0 H) (ev n F) ⟨some d, op, ty, pos, af, none⟩ v) (h : WL P ops Q w0 H rest n (upd F d v)) : WL P ops Q w0 H (⟨some d, op, ty, pos, af, none⟩ :: rest) n F :=
  fun w hw => wpList_plain rfl fun K hK => hq.wp hw fun w' hw' => hK _ _ (by rw [fr_put]; exact h w' hw')
theorem l1g {j dj : Nat} {want g : Bool} (hj : (ops[j]?).bind (·.dst) = some dj) (hg : GW (ev n F (.tmp dj)) want g)
    (hq : g = true → Qu P (Sat w0 H) (ev n F) ⟨some d, op, ty, pos, af, some (j, want)⟩ v) (h : WL P ops Q w0 H rest n (upd F d (gv g v))) :
    WL P ops Q w0 H (⟨some d, op, ty, pos, af, some (j, want)⟩ :: rest) n F := fun w hw => wpList_step fun K hK => by
  rw [wanted_fr rfl hj hg]
  cases g with
  | true =>
    rw [gvt rfl] at h
    rw [if_pos rfl]
    exact (hq rfl).wp hw fun w' hw' => hK _ _ (by rw [fr_put]; exact h w' hw')
  | false =>
    rw [gv_false] at h
    rw [if_neg (by simp)]
    exact hK _ _ (by rw [fr_put]; exact h w hw)
theorem q1 {K : Act → Prop} (hq : Qu P (Sat w0 H) (ev n F) ⟨some d, op, ty, pos, af, none⟩ v) (h : WQ P ops w0 H K rest n (upd F d v)) : WQ P ops w0 H K (⟨some d, op, ty, pos, af, none⟩ :: rest) n F := by
  refine wpQuiet_step fun K' hK' => ?_
  rw [if_pos (by rfl)]
  exact ⟨v, fun w hw => by unfold Oper.quietAt; rw [fr_eval]; exact hq w hw, hK' _ (by rw [fr_put]; exact h)⟩
theorem q1g {K : Act → Prop} {j dj : Nat} {want g : Bool} (hj : (ops[j]?).bind (·.dst) = some dj) (hg : GW (ev n F (.tmp dj)) want g)
    (hq : g = true → Qu P (Sat w0 H) (ev n F) ⟨some d, op, ty, pos, af, some (j, want)⟩ v) (h : WQ P ops w0 H K rest n (upd F d (gv g v))) :
    WQ P ops w0 H K (⟨some d, op, ty, pos, af, some (j, want)⟩ :: rest) n F := by
  refine wpQuiet_step fun K' hK' => ?_
  rw [wanted_fr rfl hj hg]
  cases g with
  | true =>
    rw [gvt rfl] at h
    rw [if_pos rfl]
    exact ⟨v, fun w hw => by unfold Oper.quietAt; rw [fr_eval]; exact hq rfl w hw, hK' _ (by rw [fr_put]; exact h)⟩
  | false =>
    rw [gv_false] at h
    rw [if_neg (by simp)]
    exact hK' _ (by rw [fr_put]; exact h)
/-- a new block -/
theorem lal {t : TypeId} {z : Value} {zs : List Value} (hz : ∀ w, (zeroValue t).run P w = .ok z w) (hzs : z.cells.toList = zs)
    (h : ∀ b, WL P ops Q w0 (H ++ [⟨b, zs, t⟩]) rest n (upd F d (.pointer (some ⟨b, 0, none⟩)))) : WL P ops Q w0 H (⟨some d, .alloc t, ty, pos, af, none⟩ :: rest) n F :=
  fun w hw => wpList_plain rfl fun K hK => by
    have hs := hw.alloc zs t
    have hr : (execOp (fr n F).eval ⟨some d, .alloc t, ty, pos, af, none⟩).run P w = .ok (.value (.pointer (some ⟨w.heap.size, 0, none⟩))) (w.alloc (.cells zs.toArray t)) := by
      have hc : z.cells = zs.toArray := by rw [← hzs]
      simp [execOp, Instr.alloc, hz, newVar, newRow, newObj, Sem.run, hc]
    unfold Oper.wp
    rw [hr]
    exact hK _ _ (by rw [fr_put]; exact h _ _ hs)
theorem lbx {t : TypeId} {x : Operand} {vx : Value} {cs : List Value} (hx : ev n F x = vx) (hcs : vx.cells = cs.toArray)
    (h : ∀ b, WL P ops Q w0 (H ++ [⟨b, cs, t⟩]) rest n (upd F d (.pointer (some ⟨b, 0, none⟩)))) : WL P ops Q w0 H (⟨some d, .box t x, ty, pos, af, none⟩ :: rest) n F :=
  fun w hw => wpList_plain rfl fun K hK => by
    have hs := hw.alloc cs t
    have hr : (execOp (fr n F).eval ⟨some d, .box t x, ty, pos, af, none⟩).run P w = .ok (.value (.pointer (some ⟨w.heap.size, 0, none⟩))) (w.alloc (.cells cs.toArray t)) := by
      simp [execOp, Instr.box, fr_eval, hx, newVar, newRow, newObj, Sem.run, hcs]
    unfold Oper.wp
    rw [hr]
    exact hK _ _ (by rw [fr_put]; exact h _ _ hs)
theorem lbxi {t : TypeId} {x : Operand} {k : IntKind} {a : Int} (hx : ev n F x = .int k a)
    (h : ∀ b, WL P ops Q w0 (H ++ [⟨b, [.int k a], t⟩]) rest n (upd F d (.pointer (some ⟨b, 0, none⟩)))) : WL P ops Q w0 H (⟨some d, .box t x, ty, pos, af, none⟩ :: rest) n F := lbx hx rfl h
theorem lbxb {t : TypeId} {x : Operand} {a : Bool} (hx : ev n F x = .bool a)
    (h : ∀ b, WL P ops Q w0 (H ++ [⟨b, [.bool a], t⟩]) rest n (upd F d (.pointer (some ⟨b, 0, none⟩)))) : WL P ops Q w0 H (⟨some d, .box t x, ty, pos, af, none⟩ :: rest) n F := lbx hx rfl h
theorem lbxa {t : TypeId} {x : Operand} {cs : List Value} (hx : ev n F x = .agg cs.toArray)
    (h : ∀ b, WL P ops Q w0 (H ++ [⟨b, cs, t⟩]) rest n (upd F d (.pointer (some ⟨b, 0, none⟩)))) : WL P ops Q w0 H (⟨some d, .box t x, ty, pos, af, none⟩ :: rest) n F := lbx hx rfl h
theorem lbxs {t : TypeId} {x : Operand} {p : Option Addr} {m c : Nat} (hx : ev n F x = .slice p m c)
    (h : ∀ b, WL P ops Q w0 (H ++ [⟨b, [.slice p m c], t⟩]) rest n (upd F d (.pointer (some ⟨b, 0, none⟩)))) : WL P ops Q w0 H (⟨some d, .box t x, ty, pos, af, none⟩ :: rest) n F := lbx hx rfl h
theorem lbxt {t : TypeId} {x : Operand} {a : ByteArray} (hx : ev n F x = .string a)
    (h : ∀ b, WL P ops Q w0 (H ++ [⟨b, [.string a], t⟩]) rest n (upd F d (.pointer (some ⟨b, 0, none⟩)))) : WL P ops Q w0 H (⟨some d, .box t x, ty, pos, af, none⟩ :: rest) n F := lbx hx rfl h
theorem lbxf {t : TypeId} {x : Operand} {f : Fn} {x1 x2 : Array Value} (hx : ev n F x = .func f x1 x2)
    (h : ∀ b, WL P ops Q w0 (H ++ [⟨b, [.func f x1 x2], t⟩]) rest n (upd F d (.pointer (some ⟨b, 0, none⟩)))) : WL P ops Q w0 H (⟨some d, .box t x, ty, pos, af, none⟩ :: rest) n F := lbx hx rfl h
theorem lbxm {t : TypeId} {x : Operand} {r : Option Nat} (hx : ev n F x = .map r)
    (h : ∀ b, WL P ops Q w0 (H ++ [⟨b, [.map r], t⟩]) rest n (upd F d (.pointer (some ⟨b, 0, none⟩)))) : WL P ops Q w0 H (⟨some d, .box t x, ty, pos, af, none⟩ :: rest) n F := lbx hx rfl h
theorem Sat.set {w : World} (hw : Sat w0 H w) {i : Nat} {e : Ent} (hi : H[i]? = some e) (cs' : List Value) : Sat w0 (H.set i ⟨e.b, cs', e.t⟩) (w.setRow e.b cs'.toArray) := by
  have he := List.mem_of_getElem? hi
  have hil : i < H.length := (List.getElem?_eq_some_iff.1 hi).1
  have hap := hw.apart
  refine ⟨?_, fun x hx => ?_, ?_⟩
  · refine hw.below.trans ⟨rfl, rfl, rfl, by simp, fun k hk => setRow_other w e.b k _ (fun h => ?_)⟩
    have := (hw.own e he).1; omega
  · obtain ⟨j, hj⟩ := List.getElem?_of_mem hx
    rw [List.getElem?_set] at hj
    by_cases hij : i = j
    · subst hij
      rw [if_pos rfl, if_pos hil] at hj
      obtain rfl := Option.some.inj hj
      exact ⟨(hw.own e he).1, setRow_heap w e.b _ _ _ _ (hw.own e he).2⟩
    · rw [if_neg hij] at hj
      have hx' := List.mem_of_getElem? hj
      have hne : x.b ≠ e.b := by
        rcases Nat.lt_or_gt_of_ne hij with hlt | hlt
        · have h1 := List.pairwise_iff_getElem.1 hap i j hil (List.getElem?_eq_some_iff.1 hj).1 hlt
          rw [(List.getElem?_eq_some_iff.1 hj).2, (List.getElem?_eq_some_iff.1 hi).2] at h1
          exact fun h => h1 h.symm
        · have h1 := List.pairwise_iff_getElem.1 hap j i (List.getElem?_eq_some_iff.1 hj).1 hil hlt
          rw [(List.getElem?_eq_some_iff.1 hj).2, (List.getElem?_eq_some_iff.1 hi).2] at h1
          exact h1
      refine ⟨(hw.own x hx').1, ?_⟩
      rw [setRow_other w e.b x.b _ hne]
      exact (hw.own x hx').2
  · have hm : (H.set i ⟨e.b, cs', e.t⟩).map (·.b) = H.map (·.b) := by
      apply List.ext_getElem?
      intro j
      simp only [List.getElem?_map, List.getElem?_set]
      by_cases hij : i = j
      · subst hij; simp [hil, (List.getElem?_eq_some_iff.1 hi).2]
      · simp [hij]
    have := List.pairwise_map.2 hap
    rw [← hm] at this
    exact List.pairwise_map.1 this
/-- a store into an own block -/
theorem lst (i : Nat) {t : TypeId} {p x : Operand} {e : Ent} {o k : Nat} {vx : Value} {vs cs' : List Value} (hi : H[i]? = some e) (hp : ev n F p = .pointer (some ⟨e.b, o, none⟩))
    (hx : ev n F x = vx) (hvs : vx.cells = vs.toArray) (hk : ∀ w, (Go.sizeOf t).run P w = .ok k w) (hl : vs.length = k) (hol : o + vs.length ≤ e.cs.length) (h1 : ∀ v ∈ vs, v.oneCell' = true)
    (hcs : e.cs.take o ++ vs ++ e.cs.drop (o + vs.length) = cs') (h : WL P ops Q w0 (H.set i ⟨e.b, cs', e.t⟩) rest n F) :
    WL P ops Q w0 H (⟨none, .store t p x, ty, pos, af, none⟩ :: rest) n F :=
  fun w hw => wpList_plain rfl fun K hK => by
    have hs := hw.set hi cs'
    have hb := (hw.own e (List.mem_of_getElem? hi)).2
    have hst := run_storeCells_at P e.b o e.t vs 0 e.cs.toArray w hb (by simpa using hol) h1
    have hr : (execOp (fr n F).eval ⟨none, .store t p x, ty, pos, af, none⟩).run P w = .ok .skip (w.setRow e.b cs'.toArray) := by
      simp only [Nat.add_zero] at hst
      simp [execOp, fr_eval, hp, hx, Instr.storeAt, Instr.sureAddr, storeVar, hk, hvs, hst, ← hcs, hl]
    unfold Oper.wp
    rw [hr]
    exact hK _ _ (by rw [fr_put_none]; exact h _ hs)
theorem lsti (i : Nat) {t : TypeId} {p x : Operand} {e : Ent} {o : Nat} {cs' : List Value} {k : IntKind} {a : Int} (hi : H[i]? = some e) (hp : ev n F p = .pointer (some ⟨e.b, o, none⟩))
    (hx : ev n F x = .int k a) (hk : ∀ w, (Go.sizeOf t).run P w = .ok 1 w) (hol : o < e.cs.length)
    (hcs : e.cs.set o (.int k a) = cs') (h : WL P ops Q w0 (H.set i ⟨e.b, cs', e.t⟩) rest n F) :
    WL P ops Q w0 H (⟨none, .store t p x, ty, pos, af, none⟩ :: rest) n F := lst (vs := [.int k a]) i hi hp hx rfl hk rfl hol (one1 rfl) (by rw [← hcs, List.set_eq_take_append_cons_drop, if_pos hol]; simp) h
theorem lstb (i : Nat) {t : TypeId} {p x : Operand} {e : Ent} {o : Nat} {cs' : List Value} {a : Bool} (hi : H[i]? = some e) (hp : ev n F p = .pointer (some ⟨e.b, o, none⟩))
    (hx : ev n F x = .bool a) (hk : ∀ w, (Go.sizeOf t).run P w = .ok 1 w) (hol : o < e.cs.length)
    (hcs : e.cs.set o (.bool a) = cs') (h : WL P ops Q w0 (H.set i ⟨e.b, cs', e.t⟩) rest n F) :
    WL P ops Q w0 H (⟨none, .store t p x, ty, pos, af, none⟩ :: rest) n F := lst (vs := [.bool a]) i hi hp hx rfl hk rfl hol (one1 rfl) (by rw [← hcs, List.set_eq_take_append_cons_drop, if_pos hol]; simp) h
theorem lsta (i : Nat) {t : TypeId} {p x : Operand} {e : Ent} {o k : Nat} {cs cs' : List Value} (hi : H[i]? = some e) (hp : ev n F p = .pointer (some ⟨e.b, o, none⟩))
    (hx : ev n F x = .agg cs.toArray) (hk : ∀ w, (Go.sizeOf t).run P w = .ok k w) (hl : cs.length = k) (hol : o + cs.length ≤ e.cs.length) (h1 : cs.all (·.oneCell') = true)
    (hcs : e.cs.take o ++ cs ++ e.cs.drop (o + cs.length) = cs') (h : WL P ops Q w0 (H.set i ⟨e.b, cs', e.t⟩) rest n F) :
    WL P ops Q w0 H (⟨none, .store t p x, ty, pos, af, none⟩ :: rest) n F := lst i hi hp hx rfl hk hl hol (oneA h1) hcs h
/-- an own block overwritten whole -/
theorem lstw (i : Nat) {t : TypeId} {p x : Operand} {e : Ent} {k : Nat} {cs : List Value} (hi : H[i]? = some e) (hp : ev n F p = .pointer (some ⟨e.b, 0, none⟩))
    (hx : ev n F x = .agg cs.toArray) (hk : ∀ w, (Go.sizeOf t).run P w = .ok k w) (hl : cs.length = k) (hol : e.cs.length = k) (h1 : cs.all (·.oneCell') = true)
    (h : WL P ops Q w0 (H.set i ⟨e.b, cs, e.t⟩) rest n F) :
    WL P ops Q w0 H (⟨none, .store t p x, ty, pos, af, none⟩ :: rest) n F := lst i hi hp hx rfl hk hl (by omega) (oneA h1) (by simp [hl, ← hol]) h
theorem lsts (i : Nat) {t : TypeId} {p x : Operand} {e : Ent} {o : Nat} {cs' : List Value} {pp : Option Addr} {m c : Nat} (hi : H[i]? = some e) (hp : ev n F p = .pointer (some ⟨e.b, o, none⟩))
    (hx : ev n F x = .slice pp m c) (hk : ∀ w, (Go.sizeOf t).run P w = .ok 1 w) (hol : o < e.cs.length)
    (hcs : e.cs.set o (.slice pp m c) = cs') (h : WL P ops Q w0 (H.set i ⟨e.b, cs', e.t⟩) rest n F) :
    WL P ops Q w0 H (⟨none, .store t p x, ty, pos, af, none⟩ :: rest) n F := lst (vs := [.slice pp m c]) i hi hp hx rfl hk rfl hol (one1 rfl) (by rw [← hcs, List.set_eq_take_append_cons_drop, if_pos hol]; simp) h
theorem lstt (i : Nat) {t : TypeId} {p x : Operand} {e : Ent} {o : Nat} {cs' : List Value} {a : ByteArray} (hi : H[i]? = some e) (hp : ev n F p = .pointer (some ⟨e.b, o, none⟩))
    (hx : ev n F x = .string a) (hk : ∀ w, (Go.sizeOf t).run P w = .ok 1 w) (hol : o < e.cs.length)
    (hcs : e.cs.set o (.string a) = cs') (h : WL P ops Q w0 (H.set i ⟨e.b, cs', e.t⟩) rest n F) :
    WL P ops Q w0 H (⟨none, .store t p x, ty, pos, af, none⟩ :: rest) n F := lst (vs := [.string a]) i hi hp hx rfl hk rfl hol (one1 rfl) (by rw [← hcs, List.set_eq_take_append_cons_drop, if_pos hol]; simp) h
theorem lstf (i : Nat) {t : TypeId} {p x : Operand} {e : Ent} {o : Nat} {cs' : List Value} {ff : Fn} {x1 x2 : Array Value} (hi : H[i]? = some e) (hp : ev n F p = .pointer (some ⟨e.b, o, none⟩))
    (hx : ev n F x = .func ff x1 x2) (hk : ∀ w, (Go.sizeOf t).run P w = .ok 1 w) (hol : o < e.cs.length)
    (hcs : e.cs.set o (.func ff x1 x2) = cs') (h : WL P ops Q w0 (H.set i ⟨e.b, cs', e.t⟩) rest n F) :
    WL P ops Q w0 H (⟨none, .store t p x, ty, pos, af, none⟩ :: rest) n F := lst (vs := [.func ff x1 x2]) i hi hp hx rfl hk rfl hol (one1 rfl) (by rw [← hcs, List.set_eq_take_append_cons_drop, if_pos hol]; simp) h
theorem lstm (i : Nat) {t : TypeId} {p x : Operand} {e : Ent} {o : Nat} {cs' : List Value} {r : Option Nat} (hi : H[i]? = some e) (hp : ev n F p = .pointer (some ⟨e.b, o, none⟩))
    (hx : ev n F x = .map r) (hk : ∀ w, (Go.sizeOf t).run P w = .ok 1 w) (hol : o < e.cs.length)
    (hcs : e.cs.set o (.map r) = cs') (h : WL P ops Q w0 (H.set i ⟨e.b, cs', e.t⟩) rest n F) :
    WL P ops Q w0 H (⟨none, .store t p x, ty, pos, af, none⟩ :: rest) n F := lst (vs := [.map r]) i hi hp hx rfl hk rfl hol (one1 rfl) (by rw [← hcs, List.set_eq_take_append_cons_drop, if_pos hol]; simp) h
theorem wl_sub {H' : List Ent} (hs : H'.Sublist H) (h : WL P ops Q w0 H' rest n F) : WL P ops Q w0 H rest n F := fun w hw => h w (hw.sub hs)
end


/-! ### code -/
def WC (P : Program) (Q : Exit → Act → World → Prop) (w0 : World) (H : List Ent) (c : Code) (n : Nat) (F : Nat → Value) : Prop := ∀ w, Sat w0 H w → c.wp P Q (fr n F) w
/-- a way out -/
def NQ (Q : Exit → Act → World → Prop) (w0 : World) (H : List Ent) (e : Exit) (n : Nat) (F : Nat → Value) : Prop := ∀ w, Sat w0 H w → Q e (fr n F) w
section
variable {P : Program} {Q : Exit → Act → World → Prop} {w0 : World} {H : List Ent} {n : Nat} {F : Nat → Value} {x y : Code} {id : Nat} {l : List Oper}
abbrev TQ (P : Program) (Q : Exit → Act → World → Prop) (y : Code) : Exit → Act → World → Prop := Exit.then (fun a w => y.wp P Q a w) Q
theorem cseq (h : WC P (TQ P Q y) w0 H x n F) : WC P Q w0 H (.seq x y) n F := fun w hw => wp_seq (h w hw)
theorem creg (h : WL P l.toArray Q w0 H l n F) : WC P Q w0 H (.region id l.toArray false) n F := fun w hw => wp_region_lit (h w hw)
theorem lnil {ops : Array Oper} (h : NQ Q w0 H .normal n F) : WL P ops Q w0 H [] n F := fun w hw => wpList_nil (h w hw)
theorem cregq (hm : P.follows .mixedOrders = true) (hB : Region.lexB .any l.toArray = true) (h : WQ P l.toArray w0 H (fun a' => ∀ w', Sat w0 H w' → Q .normal a' w') l n F) :
    WC P Q w0 H (.region id l.toArray true) n F := fun w hw => wp_region_quiet hm hB hw.drew (by simpa [WQ] using h)
theorem qnil {ops : Array Oper} (h : NQ Q w0 H .normal n F) : WQ P ops w0 H (fun a' => ∀ w', Sat w0 H w' → Q .normal a' w') [] n F := wpQuiet_nil h
theorem cskip (h : NQ Q w0 H .normal n F) : WC P Q w0 H .skip n F := fun w hw => wp_skip (h w hw)
theorem cret (h : NQ Q w0 H .ret n F) : WC P Q w0 H .ret n F := fun w hw => wp_ret (h w hw)
theorem cexit (h : NQ Q w0 H (.exit id) n F) : WC P Q w0 H (.exit id) n F := fun w hw => wp_exit (h w hw)
theorem cblock (h : WC P (Exit.inBlock id Q) w0 H x n F) : WC P Q w0 H (.block id x) n F := fun w hw => wp_block (h w hw)
theorem cif {c : Operand} {b : Bool} (hc : ev n F c = .bool b) (ht : b = true → WC P Q w0 H x n F) (hf : b = false → WC P Q w0 H y n F) : WC P Q w0 H (.cond c x y) n F :=
  fun w hw => wp_cond_split (t := b) (by rw [fr_eval]; exact hc) (fun h => ht h w hw) (fun h => hf h w hw)
theorem cift {c : Operand} (hc : ev n F c = .bool true) (ht : WC P Q w0 H x n F) : WC P Q w0 H (.cond c x y) n F := fun w hw => wp_cond_true (by rw [fr_eval]; exact hc) (ht w hw)
theorem ciff {c : Operand} (hc : ev n F c = .bool false) (hf : WC P Q w0 H y n F) : WC P Q w0 H (.cond c x y) n F := fun w hw => wp_cond_false (by rw [fr_eval]; exact hc) (hf w hw)
theorem nthen (h : WC P Q w0 H y n F) : NQ (TQ P Q y) w0 H .normal n F := fun w hw => h w hw
theorem nthenR (h : NQ Q w0 H .ret n F) : NQ (TQ P Q y) w0 H .ret n F := fun w hw => h w hw
theorem nthenE (h : NQ Q w0 H (.exit id) n F) : NQ (TQ P Q y) w0 H (.exit id) n F := fun w hw => h w hw
theorem nblkN (h : NQ Q w0 H .normal n F) : NQ (Exit.inBlock id Q) w0 H .normal n F := fun w hw => h w hw
theorem nblkR (h : NQ Q w0 H .ret n F) : NQ (Exit.inBlock id Q) w0 H .ret n F := fun w hw => h w hw
theorem nblkE (h : NQ Q w0 H .normal n F) : NQ (Exit.inBlock id Q) w0 H (.exit id) n F := fun w hw => by
  show (if id = id then _ else _); rw [if_pos rfl]; exact h w hw
theorem nblkO {id' : Nat} (hne : id' ≠ id) (h : NQ Q w0 H (.exit id') n F) : NQ (Exit.inBlock id Q) w0 H (.exit id') n F := fun w hw => by
  show (if id' = id then _ else _); rw [if_neg hne]; exact h w hw
theorem wc_sub {H' : List Ent} (hs : H'.Sublist H) (h : WC P Q w0 H' x n F) : WC P Q w0 H x n F := fun w hw => h w (hw.sub hs)
/-- at most k rounds of a loop -/
def WR (P : Program) (Q : Exit → Act → World → Prop) (w0 : World) (H : List Ent) (c : Code) (k n : Nat) (F : Nat → Value) : Prop := ∀ w, Sat w0 H w → Code.rounds P c Q k (fr n F) w
theorem cloopN (k : Nat) (h : WR P Q w0 H x k n F) : WC P Q w0 H (.loop x) n F := fun w hw => wp_loop_rounds k (h w hw)
abbrev RQ (P : Program) (Q : Exit → Act → World → Prop) (x : Code) (k : Nat) : Exit → Act → World → Prop := Exit.then (Code.rounds P x Q k) Q
theorem rsucc {k : Nat} (h : WC P (RQ P Q x k) w0 H x n F) : WR P Q w0 H x (k + 1) n F := fun w hw => h w hw
theorem nround {k : Nat} (h : WR P Q w0 H x k n F) : NQ (RQ P Q x k) w0 H .normal n F := fun w hw => h w hw
theorem nroundR {k : Nat} (h : NQ Q w0 H .ret n F) : NQ (RQ P Q x k) w0 H .ret n F := fun w hw => h w hw
theorem nroundE {k : Nat} (h : NQ Q w0 H (.exit id) n F) : NQ (RQ P Q x k) w0 H (.exit id) n F := fun w hw => h w hw

/-- the frame j with these slots laid over it -/
def over (j : Nat → Value) : List (Nat × Value) → Nat → Value
  | [] => j
  | (t, v) :: r => upd (over j r) t v
def AllEq (F : Nat → Value) : List (Nat × Value) → Prop
  | [] => True
  | (t, v) :: r => F t = v ∧ AllEq F r
theorem over_same {F : Nat → Value} : ∀ {l : List (Nat × Value)}, AllEq F l → over F l = F
  | [], _ => rfl
  | (t, v) :: r, h => by
    funext s
    simp only [over, upd, over_same h.2]
    cases hb : Nat.beq s t with
    | true => obtain rfl := Nat.eq_of_beq_eq_true hb; exact h.1.symm
    | false => rfl
/-- a loop's next state -/
def IQ {σ : Type} (w0 : World) (n : Nat) (ov : σ → List (Nat × Value)) (Hs : σ → List Ent) (I : σ → Prop) (μ : σ → Nat) (s : σ) : Act → World → Prop :=
  fun a w => ∃ s' j, I s' ∧ μ s' < μ s ∧ a = fr n (over j (ov s')) ∧ Sat w0 (Hs s') w
theorem cloopI {σ : Type} (ov : σ → List (Nat × Value)) (Hs : σ → List Ent) (I : σ → Prop) (μ : σ → Nat)
    (s : σ) (hI : I s) (hF : AllEq F (ov s)) (hH : (Hs s).Sublist H)
    (round : ∀ s j, I s → WC P (Exit.then (IQ w0 n ov Hs I μ s) Q) w0 (Hs s) x n (over j (ov s))) : WC P Q w0 H (.loop x) n F := by
  have key : ∀ m s j w, μ s < m → I s → Sat w0 (Hs s) w → Code.rounds P x Q m (fr n (over j (ov s))) w := by
    intro m
    induction m with
    | zero => intro s j w hm; omega
    | succ m ih =>
      intro s j w hm hI hw
      refine Code.wp_mono (fun e a w q => ?_) (round s j hI w hw)
      cases e <;> first | exact q | skip
      obtain ⟨s', j', h1, h2, h3, h4⟩ := q
      subst h3
      exact ih s' j' w (by omega) h1 h4
  refine cloopN (μ s + 1) fun w hw => ?_
  have := key (μ s + 1) s F w (by omega) hI (hw.sub hH)
  rwa [over_same hF] at this
theorem nI {σ : Type} {ov : σ → List (Nat × Value)} {Hs : σ → List Ent} {I : σ → Prop} {μ : σ → Nat} {s : σ} (s' : σ) (hI : I s') (hμ : μ s' < μ s) (hF : AllEq F (ov s'))
    (hH : (Hs s').Sublist H) : NQ (Exit.then (IQ w0 n ov Hs I μ s) Q) w0 H .normal n F := fun w hw =>
  ⟨s', F, hI, hμ, by rw [over_same hF], hw.sub hH⟩
theorem nIR {J : Act → World → Prop} (h : NQ Q w0 H .ret n F) : NQ (Exit.then J Q) w0 H .ret n F := fun w hw => h w hw
theorem nIE {J : Act → World → Prop} (h : NQ Q w0 H (.exit id) n F) : NQ (Exit.then J Q) w0 H (.exit id) n F := fun w hw => h w hw

/-! ### functions -/
def argF (args : Array Value) : Nat → Value := fun t => args.getD t undef
theorem fn_calls {f : FuncId} {fn : Func} {c : Code} {args : Array Value} {w : World} {R : Ending → World → Prop} (hf : P.funcs[f]? = some fn) (hb : fn.body = some c) (hn : fn.ntmps = n)
    (ha : args.size ≤ n) (h : WC P (bodyPost P fn R) w [] c n (argF args)) : Calls P f args w R := by
  refine calls_of_wp hf hb ?_
  have he : ({ tmps := args ++ Array.replicate (fn.ntmps - args.size) undef, defers := [] } : Act) = fr n (argF args) := by
    unfold fr
    congr 1
    apply Array.ext_getElem?
    intro t
    have h2 := fr_get n (argF args) t
    rw [show ((List.range n).map (argF args)).toArray[t]? = (fr n (argF args)).tmps[t]? from rfl, h2]
    simp only [Array.getElem?_append, Array.getElem?_replicate, hn, argF]
    by_cases h1 : t < args.size
    · rw [if_pos h1, if_pos (by omega)]; simp [h1]
    · rw [if_neg h1]
      by_cases h3 : t < n
      · rw [if_pos (by omega), if_pos h3]; simp [h1]
      · rw [if_neg (by omega), if_neg h3]
  rw [he]
  exact h w (Sat.start w)
theorem fin {fn : Func} {v : Value} (hr : ∀ w, Sat w0 H w → (results fn (fr n F).tmps).run P w = .ok v w) : NQ (bodyPost P fn (Ret v w0)) w0 H .ret n F :=
  fun w hw => ⟨rfl, v, hr w hw, rfl, hw.below⟩
theorem fr_getD (t : Nat) : (fr n F).tmps.getD t undef = ev n F (.tmp t) := by rw [← fr_eval]; rfl
theorem fin1 {fn : Func} {t : Tmp} {v : Value} (hr : fn.results = #[.tmp t]) (hv : ev n F (.tmp t) = v) : NQ (bodyPost P fn (Ret v w0)) w0 H .ret n F :=
  fin fun w _ => by rw [results_tmp hr, fr_getD, hv]
theorem fin1v {fn : Func} {t : Tmp} {v v' : Value} (hr : fn.results = #[.tmp t]) (hv : ev n F (.tmp t) = v') (he : v' = v) : NQ (bodyPost P fn (Ret v w0)) w0 H .ret n F := by
  subst he; exact fin1 hr hv
theorem fin1b {fn : Func} {t : Tmp} {v v' : Bool} (hr : fn.results = #[.tmp t]) (hv : ev n F (.tmp t) = .bool v') (he : v' = v) : NQ (bodyPost P fn (Ret (.bool v) w0)) w0 H .ret n F := by
  subst he; exact fin1 hr hv
theorem fin1i {fn : Func} {t : Tmp} {k : IntKind} {v v' : Int} (hr : fn.results = #[.tmp t]) (hv : ev n F (.tmp t) = .int k v') (he : v' = v) : NQ (bodyPost P fn (Ret (.int k v) w0)) w0 H .ret n F := by
  subst he; exact fin1 hr hv
theorem finc (i : Nat) {fn : Func} {t : Tmp} {ty : TypeId} {e : Ent} {k : Nat} {vs : List Value} (hr : fn.results = #[.cell t ty]) (ha : ∀ w, (isAgg ty).run P w = .ok true w)
    (hk : ∀ w, (Go.sizeOf ty).run P w = .ok k w) (hi : H[i]? = some e) (hx : ev n F (.tmp t) = .pointer (some ⟨e.b, 0, none⟩)) (hl : vs.length = k) (hv : e.cs = vs) :
    NQ (bodyPost P fn (Ret (.agg vs.toArray) w0)) w0 H .ret n F :=
  fin fun w hw => by
    have hm := hw.mem hi 0
    have hrn := run_loadCells_list (P := P) w ⟨e.b, 0, none⟩ vs (fun j v hj => hm j v (by rw [hv]; simpa using hj))
    rw [hl] at hrn
    have hg : (fr n F).tmps[t]?.getD undef = .pointer (some ⟨e.b, 0, none⟩) := by rw [← hx, ← fr_getD, Array.getD_eq_getD_getElem?]
    simp [results, hr, hg, asAddr, loadVar, ha, hk, hrn]
end

end Jal
