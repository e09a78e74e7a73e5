/- several texts of ours, joined: Core, Bit, Sha, Mem, Mem2, Mem3, Mem4, Mem6 -/
import Derived.WalkKit
import Derived.Deep.Quiet
import Derived.LoopN
import Derived.Deep.AppendLies
/- A way to walk: frames as functions, own blocks as a list, one law an operation. -/
namespace Jal
open Go Go.RowKit

/-! ### frames -/
def upd (F : Nat → Value) (d : Nat) (v : Value) : Nat → Value := fun t => bif Nat.beq t d then v else F t
def fr (n : Nat) (F : Nat → Value) : Act := ⟨((List.range n).map F).toArray, []⟩
def ev (n : Nat) (F : Nat → Value) : Operand → Value
  | .tmp t => bif Nat.blt t n then F t else undef
  | .const v => v
  | .global g => .pointer (some ⟨g, 0, none⟩)
  | .func f => .func (.func f) #[] #[]
theorem blt_iff (a b : Nat) : Nat.blt a b = decide (a < b) := by
  unfold Nat.blt
  by_cases h : a < b
  · rw [decide_eq_true h]; exact Nat.ble_eq_true_of_le h
  · rw [decide_eq_false h]; exact Bool.eq_false_iff.2 (fun e => h (Nat.le_of_ble_eq_true e))
theorem fr_get (n : Nat) (F : Nat → Value) (t : Nat) : (fr n F).tmps[t]? = if t < n then some (F t) else none := by
  simp only [fr, List.getElem?_toArray, List.getElem?_map]
  by_cases h : t < n
  · rw [List.getElem?_range h, if_pos h]; rfl
  · rw [if_neg h, List.getElem?_eq_none (by simpa using h)]; rfl
theorem fr_eval (n : Nat) (F : Nat → Value) : (fr n F).eval = ev n F := by
  funext x
  cases x with
  | tmp t =>
    show (fr n F).tmps.getD t undef = _
    rw [Array.getD_eq_getD_getElem?, fr_get]
    simp only [ev, blt_iff]
    by_cases h : t < n <;> simp [h]
  | _ => rfl
theorem fr_put (n : Nat) (F : Nat → Value) (d : Nat) (v : Value) : (fr n F).put (some d) v = fr n (upd F d v) := by
  show Act.mk _ _ = Act.mk _ _
  congr 1
  apply Array.ext_getElem?
  intro t
  rw [Array.getElem?_setIfInBounds]
  have h1 := fr_get n F t
  have h2 := fr_get n (upd F d v) t
  have hs : (fr n F).tmps.size = n := by simp [fr]
  simp only [h1, hs]
  rw [show ((List.range n).map (upd F d v)).toArray[t]? = (fr n (upd F d v)).tmps[t]? from rfl, h2]
  by_cases e : d = t
  · subst e
    by_cases hn : d < n <;> simp [hn, upd]
  · have e' : Nat.beq t d = false := by
      cases hb : Nat.beq t d with
      | false => rfl
      | true => exact absurd (Nat.eq_of_beq_eq_true hb).symm e
    by_cases hn : t < n <;> simp [hn, upd, e, e']
theorem fr_put_none (n : Nat) (F : Nat → Value) (v : Value) : (fr n F).put none v = fr n F := rfl

/-- a value that is there where g is true -/
def gv (g : Bool) (v : Value) : Value := bif g then v else undef
theorem gvt {g : Bool} {v : Value} (h : g = true) : gv g v = v := by subst h; rfl
attribute [irreducible] gv

theorem ri {x : Int} (h : -9223372036854775808 ≤ x) (h' : x ≤ 9223372036854775807) : IntKind.i64.wrap x = x := by
  simp [IntKind.wrap, IntKind.signed, IntKind.bits]; omega
theorem ru {x : Int} (h : 0 ≤ x) (h' : x ≤ 18446744073709551615) : IntKind.u64.wrap x = x := by
  simp [IntKind.wrap, IntKind.signed, IntKind.bits]; omega
theorem al {a b : Bool} (h : (a && b) = true) : a = true := by cases a <;> simp_all
theorem al2 {a b : Bool} (h : (a && b) = true) : b = true := by cases a <;> simp_all
theorem df2 {a b : Int} (h : decide (a ≠ b) = false) : a = b := by simpa using h
theorem nn {b : Bool} {c : Bool} (h : (!b) = c) : b = !c := by cases b <;> cases c <;> simp_all
theorem gva {g x : Bool} {v : Value} (h : g = true) : gv (g && x) v = gv x v := by subst h; rfl
theorem one1 {v : Value} (h : v.oneCell' = true) : ∀ u ∈ [v], u.oneCell' = true := by intro u hu; obtain rfl := List.mem_singleton.1 hu; exact h
theorem oneA {vs : List Value} (h : vs.all (·.oneCell') = true) : ∀ u ∈ vs, u.oneCell' = true := fun u hu => List.all_eq_true.1 h u hu
theorem lb {a b : Nat} (h : Nat.ble a b = true) : a ≤ b := Nat.le_of_ble_eq_true h
/-- an array of n numbers of one kind -/
def arr (k : IntKind) (n : Nat) (f : Nat → Int) : List Value := (List.range n).map fun i => .int k (f i)
def barr (n : Nat) (f : Nat → Bool) : List Value := (List.range n).map fun i => .bool (f i)
theorem bt {v : Value} {b : Bool} (h : v = .bool b) (hb : b = true) : v = .bool true := by rw [h, hb]
theorem bf {v : Value} {b : Bool} (h : v = .bool b) (hb : b = false) : v = .bool false := by rw [h, hb]
theorem btn {v : Value} {b : Bool} (h : v = .bool (!b)) (hb : b = false) : v = .bool true := by rw [h, hb]; rfl
theorem bfn {v : Value} {b : Bool} (h : v = .bool (!b)) (hb : b = true) : v = .bool false := by rw [h, hb]; rfl
theorem orf {a b : Bool} (h : (!a || !b) = false) : a = true ∧ b = true := by cases a <;> cases b <;> simp_all
theorem dt {p : Prop} [Decidable p] (h : decide p = true) : p := of_decide_eq_true h
theorem df {p : Prop} [Decidable p] (h : decide p = false) : ¬ p := of_decide_eq_false h
/-! ### worlds -/
structure Ent where
  b : Nat
  cs : List Value
  t : TypeId
/-- Below the first world's size all is as it was; the own blocks hold these cells. -/
structure Sat (w0 : World) (H : List Ent) (w : World) : Prop where
  below : Below w0.heap.size w0 w
  own : ∀ e ∈ H, w0.heap.size ≤ e.b ∧ w.heap[e.b]? = some (.cells e.cs.toArray e.t (0, 0))
  apart : H.Pairwise (fun x y => x.b ≠ y.b)
def Ret (v : Value) (w : World) : Ending → World → Prop := fun e w' => e = .returned v ∧ Below w.heap.size w w'

theorem Sat.start (w : World) : Sat w [] w := ⟨Below.refl _ _, fun _ h => absurd h (by simp), .nil⟩
theorem Sat.drew {w0 H w} (h : Sat w0 H w) : Sat w0 H w.drew := ⟨h.below.drew, h.own, h.apart⟩
theorem Sat.size {w0 H w} (h : Sat w0 H w) : w0.heap.size ≤ w.heap.size := h.below.size
theorem Sat.lt {w0 H w} (h : Sat w0 H w) {e : Ent} (he : e ∈ H) : e.b < w.heap.size := (Array.getElem?_eq_some_iff.1 (h.own e he).2).1
theorem Sat.step {w0 H w w'} (h : Sat w0 H w) (hb : Below w.heap.size w w') : Sat w0 H w' :=
  ⟨h.below.trans (hb.mono h.size), fun e he => ⟨(h.own e he).1, (hb.block e.b (h.lt he)).trans (h.own e he).2⟩, h.apart⟩
theorem Sat.alloc {w0 H w} (h : Sat w0 H w) (cs : List Value) (t : TypeId) : Sat w0 (H ++ [⟨w.heap.size, cs, t⟩]) (w.alloc (.cells cs.toArray t)) := by
  have hb : Below w.heap.size w (w.alloc (.cells cs.toArray t)) := (Below.refl _ _).alloc (Nat.le_refl _) _
  have h1 := h.step hb
  refine ⟨h1.below, fun e he => ?_, ?_⟩
  · rcases List.mem_append.1 he with he | he
    · exact h1.own e he
    · obtain rfl := List.mem_singleton.1 he
      exact ⟨h.size, heap_alloc_new w _⟩
  · refine List.pairwise_append.2 ⟨h.apart, by simp, fun x hx y hy => ?_⟩
    obtain rfl := List.mem_singleton.1 hy
    have := h.lt hx
    simp; omega
theorem Sat.sub {w0 H H' w} (h : Sat w0 H w) (hs : H'.Sublist H) : Sat w0 H' w := ⟨h.below, fun e he => h.own e (hs.subset he), h.apart.sublist hs⟩

/-- the cells from an address on -/
def Mem (w : World) (a : Addr) (cs : List Value) : Prop := ∀ i v, cs[i]? = some v → w.cell? (a.add i) = some v
theorem Addr.add_off (b o i : Nat) : (⟨b, o, none⟩ : Addr).add i = ⟨b, o + i, none⟩ := by
  unfold Addr.add; split <;> simp_all
theorem Sat.mem {w0 H w} (h : Sat w0 H w) {i : Nat} {e : Ent} (hi : H[i]? = some e) (o : Nat) : Mem w ⟨e.b, o, none⟩ (e.cs.drop o) := by
  intro j v hv
  rw [Addr.add_off]
  have := (h.own e (List.mem_of_getElem? hi)).2
  simp only [World.cell?, this]
  simpa [List.getElem?_drop] using hv
theorem Sat.cell {w0 H w} (h : Sat w0 H w) {i : Nat} {e : Ent} (hi : H[i]? = some e) {o : Nat} {v : Value} (hv : e.cs[o]? = some v) : w.cell? ⟨e.b, o, none⟩ = some v := by
  have := (h.own e (List.mem_of_getElem? hi)).2
  simp only [World.cell?, this]
  simpa using hv
theorem Mem.kept {B w w' a cs} (h : Mem w a cs) (hb : Below B w w') (ha : a.block < B) : Mem w' a cs := fun i v hv => by
  have hbl : (a.add i).block = a.block := by unfold Addr.add; split <;> rfl
  rw [hb.cell (by rw [hbl]; exact ha)]; exact h i v hv

/-- a slice of n elements of sz cells each, in memory that was there -/
structure Sl (w0 : World) (p : Option Addr) (n sz : Nat) (el : Nat → List Value) : Prop where
  h : n = 0 ∨ ∃ b o, p = some ⟨b, o, none⟩ ∧ b < w0.heap.size ∧ ∀ i, i < n → Mem w0 ⟨b, o + i * sz, none⟩ (el i)
theorem Sl.at {w0 : World} {p : Option Addr} {n sz : Nat} {el : Nat → List Value} (h : Sl w0 p n sz el) {i : Nat} (hi : i < n) :
    ∃ b o, p = some ⟨b, o, none⟩ ∧ b < w0.heap.size ∧ ∀ i, i < n → Mem w0 ⟨b, o + i * sz, none⟩ (el i) := by
  rcases h.h with h | h
  · omega
  · exact h
/-! ### quiet operations -/
def Qu (P : Program) (C : World → Prop) (ρ : Operand → Value) (o : Oper) (v : Value) : Prop := ∀ w, C w → Oper.quietUpon P C w v ((execOp ρ o).run P w)

section
variable {P : Program} {C : World → Prop} {ρ : Operand → Value} {d : Option Tmp} {ty : TypeId} {pos : String} {af : Array Edge} {g : Option (Nat × Bool)}

theorem qu_of_run {o : Oper} {v : Value} (h : ∀ w, C w → (execOp ρ o).run P w = .ok (.value v) w) : Qu P C ρ o v := fun w hw => by rw [h w hw]; exact ⟨rfl, rfl⟩
theorem mv {x : Operand} {v : Value} (h : ρ x = v) : Qu P C ρ ⟨d, .move x, ty, pos, af, g⟩ v := qu_of_run fun w _ => by subst h; rfl
theorem asg {x : Operand} {v : Value} (h : ρ x = v) : Qu P C ρ ⟨d, .assign x, ty, pos, af, g⟩ v := qu_of_run fun w _ => by subst h; rfl
theorem mvi {x : Operand} {k : IntKind} {a : Int} (h : ρ x = .int k a) : Qu P C ρ ⟨d, .move x, ty, pos, af, g⟩ (.int k a) := mv h
theorem asgi {x : Operand} {k : IntKind} {a : Int} (h : ρ x = .int k a) : Qu P C ρ ⟨d, .assign x, ty, pos, af, g⟩ (.int k a) := asg h
theorem mvb {x : Operand} {a : Bool} (h : ρ x = .bool a) : Qu P C ρ ⟨d, .move x, ty, pos, af, g⟩ (.bool a) := mv h
theorem asgb {x : Operand} {a : Bool} (h : ρ x = .bool a) : Qu P C ρ ⟨d, .assign x, ty, pos, af, g⟩ (.bool a) := asg h
theorem mva {x : Operand} {cs : List Value} (h : ρ x = .agg cs.toArray) : Qu P C ρ ⟨d, .move x, ty, pos, af, g⟩ (.agg cs.toArray) := mv h
theorem asga {x : Operand} {cs : List Value} (h : ρ x = .agg cs.toArray) : Qu P C ρ ⟨d, .assign x, ty, pos, af, g⟩ (.agg cs.toArray) := asg h
theorem mvs {x : Operand} {p : Option Addr} {n c : Nat} (h : ρ x = .slice p n c) : Qu P C ρ ⟨d, .move x, ty, pos, af, g⟩ (.slice p n c) := mv h
theorem asgs {x : Operand} {p : Option Addr} {n c : Nat} (h : ρ x = .slice p n c) : Qu P C ρ ⟨d, .assign x, ty, pos, af, g⟩ (.slice p n c) := asg h
theorem mvt {x : Operand} {a : ByteArray} (h : ρ x = .string a) : Qu P C ρ ⟨d, .move x, ty, pos, af, g⟩ (.string a) := mv h
theorem asgt {x : Operand} {a : ByteArray} (h : ρ x = .string a) : Qu P C ρ ⟨d, .assign x, ty, pos, af, g⟩ (.string a) := asg h
theorem mvf {x : Operand} {f : Fn} {x1 x2 : Array Value} (h : ρ x = .func f x1 x2) : Qu P C ρ ⟨d, .move x, ty, pos, af, g⟩ (.func f x1 x2) := mv h
theorem asgf {x : Operand} {f : Fn} {x1 x2 : Array Value} (h : ρ x = .func f x1 x2) : Qu P C ρ ⟨d, .assign x, ty, pos, af, g⟩ (.func f x1 x2) := asg h
theorem mvm {x : Operand} {r : Option Nat} (h : ρ x = .map r) : Qu P C ρ ⟨d, .move x, ty, pos, af, g⟩ (.map r) := mv h
theorem asgm {x : Operand} {r : Option Nat} (h : ρ x = .map r) : Qu P C ρ ⟨d, .assign x, ty, pos, af, g⟩ (.map r) := asg h
/-- pick over bools -/
theorem pk {c a b : Operand} {x y z : Bool} (hc : ρ c = .bool x) (ha : ρ a = .bool y) (hb : ρ b = .bool z) : Qu P C ρ ⟨d, .pick c a b, ty, pos, af, g⟩ (.bool (bif x then y else z)) :=
  qu_of_run fun w _ => by
    simp only [execOp, hc, ha, hb, asBool]
    cases x <;> rfl
theorem pk_and {c a b : Operand} {x y : Bool} (hc : ρ c = .bool x) (ha : ρ a = gv x (.bool y)) (hb : ρ b = .bool false) : Qu P C ρ ⟨d, .pick c a b, ty, pos, af, g⟩ (.bool (x && y)) :=
  qu_of_run fun w _ => by
    simp only [execOp, hc, ha, hb, asBool]
    cases x
    · rfl
    · rw [gvt rfl]; rfl
theorem pk_or {c a b : Operand} {x y : Bool} (hc : ρ c = .bool x) (ha : ρ a = .bool true) (hb : ρ b = gv (!x) (.bool y)) : Qu P C ρ ⟨d, .pick c a b, ty, pos, af, g⟩ (.bool (x || y)) :=
  qu_of_run fun w _ => by
    simp only [execOp, hc, ha, hb, asBool]
    cases x
    · rw [show gv (!false) (Value.bool y) = .bool y from gvt rfl]; rfl
    · rfl

section ints
variable {x y : Operand} {k : IntKind} {a b : Int} {t t' : TypeId}
theorem lss (hx : ρ x = .int k a) (hy : ρ y = .int k b) : Qu P C ρ ⟨d, .binOp .lss t x y t', ty, pos, af, g⟩ (.bool (decide (a < b))) :=
  qu_of_run fun w _ => by simp [execOp, hx, hy, binOp, eqGuard, Op.intCmp]
theorem leq (hx : ρ x = .int k a) (hy : ρ y = .int k b) : Qu P C ρ ⟨d, .binOp .leq t x y t', ty, pos, af, g⟩ (.bool (decide (a ≤ b))) :=
  qu_of_run fun w _ => by simp [execOp, hx, hy, binOp, eqGuard, Op.intCmp]
theorem gtr (hx : ρ x = .int k a) (hy : ρ y = .int k b) : Qu P C ρ ⟨d, .binOp .gtr t x y t', ty, pos, af, g⟩ (.bool (decide (a > b))) :=
  qu_of_run fun w _ => by simp [execOp, hx, hy, binOp, eqGuard, Op.intCmp]
theorem geq (hx : ρ x = .int k a) (hy : ρ y = .int k b) : Qu P C ρ ⟨d, .binOp .geq t x y t', ty, pos, af, g⟩ (.bool (decide (a ≥ b))) :=
  qu_of_run fun w _ => by simp [execOp, hx, hy, binOp, eqGuard, Op.intCmp]
theorem eqg_int (op : BinOp) (w : World) : (eqGuard op t x y (.int k a) (.int k b)).run P w = .ok () w := by cases op <;> rfl
theorem eql (hx : ρ x = .int k a) (hy : ρ y = .int k b) : Qu P C ρ ⟨d, .binOp .eql t x y t', ty, pos, af, g⟩ (.bool (decide (a = b))) :=
  qu_of_run fun w _ => by
    simp only [execOp, hx, hy, Sem.run_bind, eqg_int, Result.andThen_ok, binOp]
    rw [if_neg (by simp)]; rfl
theorem neq (hx : ρ x = .int k a) (hy : ρ y = .int k b) : Qu P C ρ ⟨d, .binOp .neq t x y t', ty, pos, af, g⟩ (.bool (decide (a ≠ b))) :=
  qu_of_run fun w _ => by
    simp only [execOp, hx, hy, Sem.run_bind, eqg_int, Result.andThen_ok, binOp]
    simp [Op.intCmp, bne]; rfl
theorem add (hx : ρ x = .int k a) (hy : ρ y = .int k b) : Qu P C ρ ⟨d, .binOp .add t x y t', ty, pos, af, g⟩ (.int k (k.wrap (a + b))) :=
  qu_of_run fun w _ => by simp [execOp, hx, hy, binOp, eqGuard, Op.intArith]
theorem sub (hx : ρ x = .int k a) (hy : ρ y = .int k b) : Qu P C ρ ⟨d, .binOp .sub t x y t', ty, pos, af, g⟩ (.int k (k.wrap (a - b))) :=
  qu_of_run fun w _ => by simp [execOp, hx, hy, binOp, eqGuard, Op.intArith]
theorem mul (hx : ρ x = .int k a) (hy : ρ y = .int k b) : Qu P C ρ ⟨d, .binOp .mul t x y t', ty, pos, af, g⟩ (.int k (k.wrap (a * b))) :=
  qu_of_run fun w _ => by simp [execOp, hx, hy, binOp, eqGuard, Op.intArith]
end ints
/-- sums that stay in range -/
theorem addn {x y : Operand} {k : IntKind} {a b : Int} {t t' : TypeId} (hx : ρ x = .int k a) (hy : ρ y = .int k b) (hr : k.wrap (a + b) = a + b) : Qu P C ρ ⟨d, .binOp .add t x y t', ty, pos, af, g⟩ (.int k (a + b)) := by
  have := add (P := P) (C := C) (d := d) (ty := ty) (pos := pos) (af := af) (g := g) (t := t) (t' := t') hx hy
  rwa [hr] at this
theorem subn {x y : Operand} {k : IntKind} {a b : Int} {t t' : TypeId} (hx : ρ x = .int k a) (hy : ρ y = .int k b) (hr : k.wrap (a - b) = a - b) : Qu P C ρ ⟨d, .binOp .sub t x y t', ty, pos, af, g⟩ (.int k (a - b)) := by
  have := sub (P := P) (C := C) (d := d) (ty := ty) (pos := pos) (af := af) (g := g) (t := t) (t' := t') hx hy
  rwa [hr] at this
theorem pk_and0 {c a b : Operand} {x y : Bool} (hc : ρ c = .bool x) (ha : ρ a = .bool y) (hb : ρ b = .bool false) : Qu P C ρ ⟨d, .pick c a b, ty, pos, af, g⟩ (.bool (x && y)) := by
  have := pk (P := P) (C := C) (d := d) (ty := ty) (pos := pos) (af := af) (g := g) hc ha hb
  rwa [show (bif x then y else false) = (x && y) from by cases x <;> rfl] at this
theorem pk_or0 {c a b : Operand} {x y : Bool} (hc : ρ c = .bool x) (ha : ρ a = .bool true) (hb : ρ b = .bool y) : Qu P C ρ ⟨d, .pick c a b, ty, pos, af, g⟩ (.bool (x || y)) := by
  have := pk (P := P) (C := C) (d := d) (ty := ty) (pos := pos) (af := af) (g := g) hc ha hb
  rwa [show (bif x then true else y) = (x || y) from by cases x <;> rfl] at this
theorem nt {t : TypeId} {x : Operand} {b : Bool} (hx : ρ x = .bool b) : Qu P C ρ ⟨d, .unOp .not t x, ty, pos, af, g⟩ (.bool (!b)) :=
  qu_of_run fun w _ => by simp [execOp, hx, Op.unary]

theorem run_eqb (n : Nat) {t : TypeId} {a b : Bool} (hu : P.underlying t = some .bool) (w : World) : (Op.equalIn (n + 1) t (.bool a) (.bool b)).run P w = .ok (a == b) w := by
  simp [Op.equalIn, run_underlying hu]
theorem eqlb {x y : Operand} {t t' : TypeId} {a b : Bool} (hu : P.underlying t = some .bool) (hx : ρ x = .bool a) (hy : ρ y = .bool b) :
    Qu P C ρ ⟨d, .binOp .eql t x y t', ty, pos, af, g⟩ (.bool (a == b)) :=
  qu_of_run fun w _ => by
    have h : (Op.equal t (.bool a) (.bool b)).run P w = .ok (a == b) w := run_eqb 9999 hu w
    simp only [execOp, hx, hy]
    show (Sem.run P (do (pure () : Sem Unit); let v ← (do pure (Value.bool (← Op.equal t (.bool a) (.bool b)))); pure (Next.value v)) w) = _
    simp [h]
theorem neqb {x y : Operand} {t t' : TypeId} {a b : Bool} (hu : P.underlying t = some .bool) (hx : ρ x = .bool a) (hy : ρ y = .bool b) :
    Qu P C ρ ⟨d, .binOp .neq t x y t', ty, pos, af, g⟩ (.bool (!(a == b))) :=
  qu_of_run fun w _ => by
    have h : (Op.equal t (.bool a) (.bool b)).run P w = .ok (a == b) w := run_eqb 9999 hu w
    simp only [execOp, hx, hy]
    show (Sem.run P (do (pure () : Sem Unit); let v ← (do pure (Value.bool (!(← Op.equal t (.bool a) (.bool b))))); pure (Next.value v)) w) = _
    simp [h]
theorem eqls {x y : Operand} {t t' : TypeId} {a b : ByteArray} (hx : ρ x = .string a) (hy : ρ y = .string b) :
    Qu P C ρ ⟨d, .binOp .eql t x y t', ty, pos, af, g⟩ (.bool (a.toList == b.toList)) :=
  qu_of_run fun w _ => by simp [execOp, hx, hy, binOp, eqGuard, Op.stringOp]
theorem neqs {x y : Operand} {t t' : TypeId} {a b : ByteArray} (hx : ρ x = .string a) (hy : ρ y = .string b) :
    Qu P C ρ ⟨d, .binOp .neq t x y t', ty, pos, af, g⟩ (.bool !(a.toList == b.toList)) :=
  qu_of_run fun w _ => by simp [execOp, hx, hy, binOp, eqGuard, Op.stringOp]
theorem geqs {x y : Operand} {t t' : TypeId} {a b : ByteArray} (hx : ρ x = .string a) (hy : ρ y = .string b) :
    Qu P C ρ ⟨d, .binOp .geq t x y t', ty, pos, af, g⟩ (.bool !(Op.bytesLess a.toList b.toList)) :=
  qu_of_run fun w _ => by simp [execOp, hx, hy, binOp, eqGuard, Op.stringOp]
theorem leqs {x y : Operand} {t t' : TypeId} {a b : ByteArray} (hx : ρ x = .string a) (hy : ρ y = .string b) :
    Qu P C ρ ⟨d, .binOp .leq t x y t', ty, pos, af, g⟩ (.bool (Op.bytesLess a.toList b.toList || a.toList == b.toList)) :=
  qu_of_run fun w _ => by simp [execOp, hx, hy, binOp, eqGuard, Op.stringOp]
/-- an equality of structs or arrays, by its run -/
theorem eqla {x y : Operand} {t t' : TypeId} {u v : Value} {b : Bool} (hx : ρ x = u) (hy : ρ y = v)
    (hr : ∀ w, (do eqGuard .eql t x y u v; binOp .eql t u v).run P w = .ok (.bool b) w) : Qu P C ρ ⟨d, .binOp .eql t x y t', ty, pos, af, g⟩ (.bool b) :=
  qu_of_run fun w _ => by
    have h := hr w
    simp only [execOp, hx, hy]
    rw [Sem.run_bind, h]; rfl
theorem neqa {x y : Operand} {t t' : TypeId} {u v : Value} {b : Bool} (hx : ρ x = u) (hy : ρ y = v)
    (hr : ∀ w, (do eqGuard .neq t x y u v; binOp .neq t u v).run P w = .ok (.bool b) w) : Qu P C ρ ⟨d, .binOp .neq t x y t', ty, pos, af, g⟩ (.bool b) :=
  qu_of_run fun w _ => by
    have h := hr w
    simp only [execOp, hx, hy]
    rw [Sem.run_bind, h]; rfl

/-- a field's place -/
structure FieldAt (P : Program) (s : TypeId) (f : Nat) (off : Nat) : Prop where
  h : ∃ fs fd k, P.underlying s = some (.struct fs) ∧ fs[f]? = some fd ∧ fd.offset = off ∧ (∀ w, (Go.sizeOf fd.type).run P w = .ok (k + 1) w)
theorem fa {s : TypeId} {x : Operand} {f off b o : Nat} (hf : FieldAt P s f off) (hx : ρ x = .pointer (some ⟨b, o, none⟩)) :
    Qu P C ρ ⟨d, .fieldAddr s x f, ty, pos, af, g⟩ (.pointer (some ⟨b, o + off, none⟩)) :=
  qu_of_run fun w _ => by
    obtain ⟨fs, fd, k, hu, hfd, ho, hk⟩ := hf.h
    simp [execOp, hx, Instr.fieldAt, run_underlying hu, hfd, Instr.sureAddr, fieldPlace, hk, Addr.add_off, ho]
/-- an array of 'len' elements of 'sz' cells -/
structure ArrT (P : Program) (t : TypeId) (len sz : Nat) : Prop where
  h : ∃ e, P.underlying t = some (.array len e) ∧ (∀ w, (Go.sizeOf e).run P w = .ok sz w)
structure SliT (P : Program) (t : TypeId) (sz : Nat) : Prop where
  h : ∃ e, P.underlying t = some (.slice e) ∧ (∀ w, (Go.sizeOf e).run P w = .ok sz w)
theorem ia {t : TypeId} {x ix : Operand} {len sz b o : Nat} {k : IntKind} {i : Int} (ht : ArrT P t len sz) (hx : ρ x = .pointer (some ⟨b, o, none⟩)) (hi : ρ ix = .int k i)
    (h0 : 0 ≤ i) (h1 : i < len) : Qu P C ρ ⟨d, .indexAddr t x ix, ty, pos, af, g⟩ (.pointer (some ⟨b, o + i.toNat * sz, none⟩)) :=
  qu_of_run fun w _ => by
    obtain ⟨e, hu, hk⟩ := ht.h
    simp [execOp, hx, hi, Instr.indexAt, asIntOf, run_underlying hu, Instr.sureAddr, h0, h1, hk, Addr.add_off]
theorem is {t : TypeId} {x ix : Operand} {sz n c b o : Nat} {k : IntKind} {i : Int} (ht : SliT P t sz) (hx : ρ x = .slice (some ⟨b, o, none⟩) n c) (hi : ρ ix = .int k i)
    (h0 : 0 ≤ i) (h1 : i < n) : Qu P C ρ ⟨d, .indexAddr t x ix, ty, pos, af, g⟩ (.pointer (some ⟨b, o + i.toNat * sz, none⟩)) :=
  qu_of_run fun w _ => by
    obtain ⟨e, hu, hk⟩ := ht.h
    simp [execOp, hx, hi, Instr.indexAt, asIntOf, run_underlying hu, h0, h1, hk, Addr.add_off]
/-- a part of an array's value, an element of one cell -/
theorem ixv {t : TypeId} {x ix : Operand} {len : Nat} {cs : List Value} {k : IntKind} {i : Int} {v : Value} {e : TypeId} (hu : P.underlying t = some (.array len e))
    (hs : ∀ w, (Go.sizeOf e).run P w = .ok 1 w) (ha : ∀ w, (isAgg e).run P w = .ok false w) (hx : ρ x = .agg cs.toArray) (hi : ρ ix = .int k i)
    (h0 : 0 ≤ i) (h1 : i < len) (hv : cs[i.toNat]? = some v) : Qu P C ρ ⟨d, .index t x ix, ty, pos, af, g⟩ v :=
  qu_of_run fun w _ => by
    simp [execOp, hx, hi, Instr.index, asIntOf, run_underlying hu, h0, h1, hs, part, ha, hv]
theorem ext {x : Operand} {i : Nat} {vs : List Value} {v : Value} (hx : ρ x = .tuple vs.toArray) (hv : vs[i]? = some v) : Qu P C ρ ⟨d, .extract x i, ty, pos, af, g⟩ v :=
  qu_of_run fun w _ => by simp [execOp, hx, Instr.extract, hv]
theorem bld0 {t : TypeId} {zs : List Value} (hr : ∀ w, (Instr.build t #[]).run P w = .ok (.agg zs.toArray) w) : Qu P C ρ ⟨d, .build t #[], ty, pos, af, g⟩ (.agg zs.toArray) :=
  qu_of_run fun w _ => by simp [execOp, hr]
theorem isp {t : TypeId} {x ix : Operand} {sz n c b o : Nat} {k : IntKind} {i : Int} {p : Option Addr} (ht : SliT P t sz) (hp : p = some ⟨b, o, none⟩) (hx : ρ x = .slice p n c) (hi : ρ ix = .int k i)
    (h0 : 0 ≤ i) (h1 : i < n) : Qu P C ρ ⟨d, .indexAddr t x ix, ty, pos, af, g⟩ (.pointer (some ⟨b, o + i.toNat * sz, none⟩)) := by
  subst hp; exact is ht hx hi h0 h1
/-- a load of one cell out of an own block -/
theorem ldc {w0 : World} {H : List Ent} (i : Nat) {t : TypeId} {x : Operand} {e : Ent} {o : Nat} {v : Value} (ha : ∀ w, (isAgg t).run P w = .ok false w)
    (hi : H[i]? = some e) (hx : ρ x = .pointer (some ⟨e.b, o, none⟩)) (hv : e.cs[o]? = some v) : Qu P (Sat w0 H) ρ ⟨d, .load t x, ty, pos, af, g⟩ v :=
  qu_of_run fun w hw => by
    have hc := hw.cell hi hv
    simp [execOp, hx, Instr.loadAt, Instr.sureAddr, loadVar, ha, load, Sem.run, hc]
/-- a load of some cells out of an own block -/
theorem lda {w0 : World} {H : List Ent} (i : Nat) {t : TypeId} {x : Operand} {e : Ent} {o k : Nat} {vs : List Value} (ha : ∀ w, (isAgg t).run P w = .ok true w)
    (hk : ∀ w, (Go.sizeOf t).run P w = .ok k w)
    (hi : H[i]? = some e) (hx : ρ x = .pointer (some ⟨e.b, o, none⟩)) (hv : (e.cs.drop o).take k = vs) (hl : vs.length = k) : Qu P (Sat w0 H) ρ ⟨d, .load t x, ty, pos, af, g⟩ (.agg vs.toArray) :=
  qu_of_run fun w hw => by
    have hm := hw.mem hi o
    have hr := run_loadCells_list (P := P) w ⟨e.b, o, none⟩ vs (fun j v hj => hm j v (by
      subst hv; rw [List.getElem?_take] at hj; split at hj
      · exact hj
      · cases hj))
    rw [hl] at hr
    simp [execOp, hx, Instr.loadAt, Instr.sureAddr, loadVar, ha, hk, hr]
theorem ldw {w0 : World} {H : List Ent} (i : Nat) {t : TypeId} {x : Operand} {e : Ent} {k : Nat} (ha : ∀ w, (isAgg t).run P w = .ok true w)
    (hk : ∀ w, (Go.sizeOf t).run P w = .ok k w) (hi : H[i]? = some e) (hx : ρ x = .pointer (some ⟨e.b, 0, none⟩)) (hl : e.cs.length = k) : Qu P (Sat w0 H) ρ ⟨d, .load t x, ty, pos, af, g⟩ (.agg e.cs.toArray) :=
  lda i ha hk hi hx (by rw [List.drop_zero, ← hl, List.take_length]) hl
/-- loads from memory of which the class tells -/
theorem ldm {t : TypeId} {x : Operand} {p : Addr} {v : Value} (ha : ∀ w, (isAgg t).run P w = .ok false w) (hx : ρ x = .pointer (some p)) (hv : ∀ w, C w → w.cell? p = some v) :
    Qu P C ρ ⟨d, .load t x, ty, pos, af, g⟩ v :=
  qu_of_run fun w hw => by simp [execOp, hx, Instr.loadAt, Instr.sureAddr, loadVar, ha, load, Sem.run, hv w hw]
theorem ldam {t : TypeId} {x : Operand} {p : Addr} {k : Nat} {vs : List Value} (ha : ∀ w, (isAgg t).run P w = .ok true w) (hk : ∀ w, (Go.sizeOf t).run P w = .ok k w)
    (hx : ρ x = .pointer (some p)) (hl : vs.length = k) (hv : ∀ w, C w → Mem w p vs) : Qu P C ρ ⟨d, .load t x, ty, pos, af, g⟩ (.agg vs.toArray) :=
  qu_of_run fun w hw => by
    have hr := run_loadCells_list (P := P) w p vs (hv w hw)
    rw [hl] at hr
    simp [execOp, hx, Instr.loadAt, Instr.sureAddr, loadVar, ha, hk, hr]
theorem lens {t : TypeId} {x : Operand} {a : Option Addr} {n c : Nat} {ats : Array TypeId} {sz : Nat} (ht : SliT P t sz) (hat : ats[0]? = some t) (hx : ρ x = .slice a n c) :
    Qu P C ρ ⟨d, .call { callee := .builtin .len, args := #[x], argTypes := ats }, ty, pos, af, g⟩ (.int .i64 n) :=
  qu_of_run fun w _ => by
    obtain ⟨e, hu, _⟩ := ht.h
    simp [execOp, resolve, invoke, builtin, Builtin.len_, hat, hx, run_underlying hu, goInt]
theorem lenstr {t : TypeId} {x : Operand} {s : ByteArray} {ats : Array TypeId} (ht : P.underlying t = some .string) (hat : ats[0]? = some t) (hx : ρ x = .string s) :
    Qu P C ρ ⟨d, .call { callee := .builtin .len, args := #[x], argTypes := ats }, ty, pos, af, g⟩ (.int .i64 s.size) :=
  qu_of_run fun w _ => by
    simp [execOp, resolve, invoke, builtin, Builtin.len_, hat, hx, run_underlying ht, goInt]
theorem max2 {x y : Operand} {k : IntKind} {a b : Int} {ats : Array TypeId} (hx : ρ x = .int k a) (hy : ρ y = .int k b) :
    Qu P C ρ ⟨d, .call { callee := .builtin .max, args := #[x, y], argTypes := ats }, ty, pos, af, g⟩ (.int k (max a b)) :=
  qu_of_run fun w _ => by
    simp [execOp, resolve, invoke, builtin, Builtin.max_, Builtin.max2, hx, hy, List.foldlM]
    omega
theorem min2 {x y : Operand} {k : IntKind} {a b : Int} {ats : Array TypeId} (hx : ρ x = .int k a) (hy : ρ y = .int k b) :
    Qu P C ρ ⟨d, .call { callee := .builtin .min, args := #[x, y], argTypes := ats }, ty, pos, af, g⟩ (.int k (min a b)) :=
  qu_of_run fun w _ => by
    simp [execOp, resolve, invoke, builtin, Builtin.min_, Builtin.min2, hx, hy, List.foldlM]
    omega
theorem mc {x : Operand} {l : List Operand} {v : Value} {vs : List Value} (h : ρ x = v) (r : l.map ρ = vs) : (x :: l).map ρ = v :: vs := by rw [List.map_cons, h, r]
theorem mn : ([] : List Operand).map ρ = [] := rfl
/-- a call of a Go function that hands back a value and leaves what was -/
structure HasBody (P : Program) (f : FuncId) : Prop where
  h : ∃ fn, P.funcs[f]? = some fn ∧ (fn.name == "runtime.NumGoroutine") = false ∧ fn.body.isSome = true
theorem cl {w0 : World} {H : List Ent} {f : FuncId} {fx : Operand} {xs : List Operand} {ats : Array TypeId} {args : List Value} {v : Value} (hb : HasBody P f) (hfx : ρ fx = .func (.func f) #[] #[])
    (hx : xs.map ρ = args) (hc : ∀ w, Sat w0 H w → Calls P f args.toArray w (Ret v w)) :
    Qu P (Sat w0 H) ρ ⟨d, .call { callee := .value fx, args := xs.toArray, argTypes := ats }, ty, pos, af, g⟩ v := fun w hw => by
  obtain ⟨fn, h1, h2, h3⟩ := hb.h
  obtain ⟨c, hcb⟩ := Option.isSome_iff_exists.1 h3
  have h2' : fn.name ≠ "runtime.NumGoroutine" := by simpa using h2
  have hr : (execOp ρ ⟨d, .call { callee := .value fx, args := xs.toArray, argTypes := ats }, ty, pos, af, g⟩).run P w = .ok (.enter f args.toArray) w := by
    simp [execOp, resolve, hfx, hx, Deferred.ofValue, invoke, callFunc, Sem.run, program, h1, h2', hcb]
  rw [hr]
  exact ⟨rfl, (hc w hw).mono fun e w' h => ⟨h.1, hw.step h.2⟩⟩
end

/-! ### guards -/
def asB : Value → Option Bool
  | .bool b => some b
  | _ => none
/-- a guard's operand v wants 'want' just where g is true -/
def GW (v : Value) (want g : Bool) : Prop := (asB v == some want) = g
theorem gwt {v : Value} {b : Bool} (h : v = .bool b) : GW v true b := by subst h; cases b <;> rfl
theorem gwf {v : Value} {b : Bool} (h : v = .bool b) : GW v false (!b) := by subst h; cases b <;> rfl
theorem asB_gv (g b : Bool) : asB (gv g (.bool b)) = bif g then some b else none := by
  cases g
  · unfold gv; rfl
  · rw [gvt rfl]; rfl
theorem ggt {v : Value} {g b : Bool} (h : v = gv g (.bool b)) : GW v true (g && b) := by
  subst h; unfold GW; rw [asB_gv]; cases g <;> cases b <;> rfl
theorem ggf {v : Value} {g b : Bool} (h : v = gv g (.bool b)) : GW v false (g && !b) := by
  subst h; unfold GW; rw [asB_gv]; cases g <;> cases b <;> rfl
theorem gv_false (v : Value) : gv false v = undef := by unfold gv; rfl
theorem yielded_fr {ops : Array Oper} {n : Nat} {F : Nat → Value} {j dj : Nat} (hj : (ops[j]?).bind (·.dst) = some dj) : yielded ops (fr n F).tmps j = asB (ev n F (.tmp dj)) := by
  unfold yielded
  rw [hj]
  simp only [Option.bind_some, fr_get, ev, blt_iff]
  by_cases h : dj < n
  · simp only [h, if_true, decide_true, cond_true]
    cases F dj <;> rfl
  · simp only [h, if_false, decide_false, cond_false]; rfl
theorem wanted_fr {ops : Array Oper} {n : Nat} {F : Nat → Value} {j dj : Nat} {want g : Bool} {o : Oper} (hgd : o.guard = some (j, want)) (hj : (ops[j]?).bind (·.dst) = some dj)
    (hg : GW (ev n F (.tmp dj)) want g) : Region.wanted o (yielded ops (fr n F).tmps) = g := by
  unfold Region.wanted
  rw [hgd]
  simp only [yielded_fr hj]
  exact hg

/-! ### lists of operations -/
section
variable {P : Program} {ops : Array Oper} {Q : Exit → Act → World → Prop} {w0 : World} {H : List Ent} {rest : List Oper} {n : Nat} {F : Nat → Value} {d : Nat} {op : Op} {ty : TypeId} {pos : String} {af : Array Edge} {v : Value}
def WL (P : Program) (ops : Array Oper) (Q : Exit → Act → World → Prop) (w0 : World) (H : List Ent) (rest : List Oper) (n : Nat) (F : Nat → Value) : Prop :=
  ∀ w, Sat w0 H w → wpList P ops Q rest (fr n F) w
def WQ (P : Program) (ops : Array Oper) (w0 : World) (H : List Ent) (Q : Act → Prop) (rest : List Oper) (n : Nat) (F : Nat → Value) : Prop :=
  wpQuiet P ops (Sat w0 H) Q rest (fr n F)
theorem Qu.wp {o : Oper} {C : World → Prop} {w : World} {K : Act → World → Prop} (hq : Qu P C (ev n F) o v) (hw : C w) (h : ∀ w', C w' → K ((fr n F).put o.dst v) w') : o.wp P (fr n F) w K Q :=
  Oper.wp_of_quiet (C := C) (K := fun a => a = (fr n F).put o.dst v) hw (fun a w' hw' ha => by subst ha; exact h w' hw')
    ⟨v, fun w hw => by unfold Oper.quietAt; rw [fr_eval]; exact hq w hw, rfl⟩
theorem l1 (hq : Qu P (Sat w0 H) (ev n F) ⟨some d, op, ty, pos, af, none⟩ v) (h : WL P ops Q w0 H rest n (upd F d v)) : WL P ops Q w0 H (⟨some d, op, ty, pos, af, none⟩ :: rest) n F :=
  fun w hw => wpList_plain rfl fun K hK => hq.wp hw fun w' hw' => hK _ _ (by rw [fr_put]; exact h w' hw')
theorem l1g {j dj : Nat} {want g : Bool} (hj : (ops[j]?).bind (·.dst) = some dj) (hg : GW (ev n F (.tmp dj)) want g)
    (hq : g = true → Qu P (Sat w0 H) (ev n F) ⟨some d, op, ty, pos, af, some (j, want)⟩ v) (h : WL P ops Q w0 H rest n (upd F d (gv g v))) :
    WL P ops Q w0 H (⟨some d, op, ty, pos, af, some (j, want)⟩ :: rest) n F := fun w hw => wpList_step fun K hK => by
  rw [wanted_fr rfl hj hg]
  cases g with
  | true =>
    rw [gvt rfl] at h
    rw [if_pos rfl]
    exact (hq rfl).wp hw fun w' hw' => hK _ _ (by rw [fr_put]; exact h w' hw')
  | false =>
    rw [gv_false] at h
    rw [if_neg (by simp)]
    exact hK _ _ (by rw [fr_put]; exact h w hw)
theorem q1 {K : Act → Prop} (hq : Qu P (Sat w0 H) (ev n F) ⟨some d, op, ty, pos, af, none⟩ v) (h : WQ P ops w0 H K rest n (upd F d v)) : WQ P ops w0 H K (⟨some d, op, ty, pos, af, none⟩ :: rest) n F := by
  refine wpQuiet_step fun K' hK' => ?_
  rw [if_pos (by rfl)]
  exact ⟨v, fun w hw => by unfold Oper.quietAt; rw [fr_eval]; exact hq w hw, hK' _ (by rw [fr_put]; exact h)⟩
theorem q1g {K : Act → Prop} {j dj : Nat} {want g : Bool} (hj : (ops[j]?).bind (·.dst) = some dj) (hg : GW (ev n F (.tmp dj)) want g)
    (hq : g = true → Qu P (Sat w0 H) (ev n F) ⟨some d, op, ty, pos, af, some (j, want)⟩ v) (h : WQ P ops w0 H K rest n (upd F d (gv g v))) :
    WQ P ops w0 H K (⟨some d, op, ty, pos, af, some (j, want)⟩ :: rest) n F := by
  refine wpQuiet_step fun K' hK' => ?_
  rw [wanted_fr rfl hj hg]
  cases g with
  | true =>
    rw [gvt rfl] at h
    rw [if_pos rfl]
    exact ⟨v, fun w hw => by unfold Oper.quietAt; rw [fr_eval]; exact hq rfl w hw, hK' _ (by rw [fr_put]; exact h)⟩
  | false =>
    rw [gv_false] at h
    rw [if_neg (by simp)]
    exact hK' _ (by rw [fr_put]; exact h)
/-- a new block -/
theorem lal {t : TypeId} {z : Value} {zs : List Value} (hz : ∀ w, (zeroValue t).run P w = .ok z w) (hzs : z.cells.toList = zs)
    (h : ∀ b, WL P ops Q w0 (H ++ [⟨b, zs, t⟩]) rest n (upd F d (.pointer (some ⟨b, 0, none⟩)))) : WL P ops Q w0 H (⟨some d, .alloc t, ty, pos, af, none⟩ :: rest) n F :=
  fun w hw => wpList_plain rfl fun K hK => by
    have hs := hw.alloc zs t
    have hr : (execOp (fr n F).eval ⟨some d, .alloc t, ty, pos, af, none⟩).run P w = .ok (.value (.pointer (some ⟨w.heap.size, 0, none⟩))) (w.alloc (.cells zs.toArray t)) := by
      have hc : z.cells = zs.toArray := by rw [← hzs]
      simp [execOp, Instr.alloc, hz, newVar, newRow, newObj, Sem.run, hc]
    unfold Oper.wp
    rw [hr]
    exact hK _ _ (by rw [fr_put]; exact h _ _ hs)
theorem lbx {t : TypeId} {x : Operand} {vx : Value} {cs : List Value} (hx : ev n F x = vx) (hcs : vx.cells = cs.toArray)
    (h : ∀ b, WL P ops Q w0 (H ++ [⟨b, cs, t⟩]) rest n (upd F d (.pointer (some ⟨b, 0, none⟩)))) : WL P ops Q w0 H (⟨some d, .box t x, ty, pos, af, none⟩ :: rest) n F :=
  fun w hw => wpList_plain rfl fun K hK => by
    have hs := hw.alloc cs t
    have hr : (execOp (fr n F).eval ⟨some d, .box t x, ty, pos, af, none⟩).run P w = .ok (.value (.pointer (some ⟨w.heap.size, 0, none⟩))) (w.alloc (.cells cs.toArray t)) := by
      simp [execOp, Instr.box, fr_eval, hx, newVar, newRow, newObj, Sem.run, hcs]
    unfold Oper.wp
    rw [hr]
    exact hK _ _ (by rw [fr_put]; exact h _ _ hs)
theorem lbxi {t : TypeId} {x : Operand} {k : IntKind} {a : Int} (hx : ev n F x = .int k a)
    (h : ∀ b, WL P ops Q w0 (H ++ [⟨b, [.int k a], t⟩]) rest n (upd F d (.pointer (some ⟨b, 0, none⟩)))) : WL P ops Q w0 H (⟨some d, .box t x, ty, pos, af, none⟩ :: rest) n F := lbx hx rfl h
theorem lbxb {t : TypeId} {x : Operand} {a : Bool} (hx : ev n F x = .bool a)
    (h : ∀ b, WL P ops Q w0 (H ++ [⟨b, [.bool a], t⟩]) rest n (upd F d (.pointer (some ⟨b, 0, none⟩)))) : WL P ops Q w0 H (⟨some d, .box t x, ty, pos, af, none⟩ :: rest) n F := lbx hx rfl h
theorem lbxa {t : TypeId} {x : Operand} {cs : List Value} (hx : ev n F x = .agg cs.toArray)
    (h : ∀ b, WL P ops Q w0 (H ++ [⟨b, cs, t⟩]) rest n (upd F d (.pointer (some ⟨b, 0, none⟩)))) : WL P ops Q w0 H (⟨some d, .box t x, ty, pos, af, none⟩ :: rest) n F := lbx hx rfl h
theorem lbxs {t : TypeId} {x : Operand} {p : Option Addr} {m c : Nat} (hx : ev n F x = .slice p m c)
    (h : ∀ b, WL P ops Q w0 (H ++ [⟨b, [.slice p m c], t⟩]) rest n (upd F d (.pointer (some ⟨b, 0, none⟩)))) : WL P ops Q w0 H (⟨some d, .box t x, ty, pos, af, none⟩ :: rest) n F := lbx hx rfl h
theorem lbxt {t : TypeId} {x : Operand} {a : ByteArray} (hx : ev n F x = .string a)
    (h : ∀ b, WL P ops Q w0 (H ++ [⟨b, [.string a], t⟩]) rest n (upd F d (.pointer (some ⟨b, 0, none⟩)))) : WL P ops Q w0 H (⟨some d, .box t x, ty, pos, af, none⟩ :: rest) n F := lbx hx rfl h
theorem lbxf {t : TypeId} {x : Operand} {f : Fn} {x1 x2 : Array Value} (hx : ev n F x = .func f x1 x2)
    (h : ∀ b, WL P ops Q w0 (H ++ [⟨b, [.func f x1 x2], t⟩]) rest n (upd F d (.pointer (some ⟨b, 0, none⟩)))) : WL P ops Q w0 H (⟨some d, .box t x, ty, pos, af, none⟩ :: rest) n F := lbx hx rfl h
theorem lbxm {t : TypeId} {x : Operand} {r : Option Nat} (hx : ev n F x = .map r)
    (h : ∀ b, WL P ops Q w0 (H ++ [⟨b, [.map r], t⟩]) rest n (upd F d (.pointer (some ⟨b, 0, none⟩)))) : WL P ops Q w0 H (⟨some d, .box t x, ty, pos, af, none⟩ :: rest) n F := lbx hx rfl h
theorem Sat.set {w : World} (hw : Sat w0 H w) {i : Nat} {e : Ent} (hi : H[i]? = some e) (cs' : List Value) : Sat w0 (H.set i ⟨e.b, cs', e.t⟩) (w.setRow e.b cs'.toArray) := by
  have he := List.mem_of_getElem? hi
  have hil : i < H.length := (List.getElem?_eq_some_iff.1 hi).1
  have hap := hw.apart
  refine ⟨?_, fun x hx => ?_, ?_⟩
  · refine hw.below.trans ⟨rfl, rfl, rfl, by simp, fun k hk => setRow_other w e.b k _ (fun h => ?_)⟩
    have := (hw.own e he).1; omega
  · obtain ⟨j, hj⟩ := List.getElem?_of_mem hx
    rw [List.getElem?_set] at hj
    by_cases hij : i = j
    · subst hij
      rw [if_pos rfl, if_pos hil] at hj
      obtain rfl := Option.some.inj hj
      exact ⟨(hw.own e he).1, setRow_heap w e.b _ _ _ _ (hw.own e he).2⟩
    · rw [if_neg hij] at hj
      have hx' := List.mem_of_getElem? hj
      have hne : x.b ≠ e.b := by
        rcases Nat.lt_or_gt_of_ne hij with hlt | hlt
        · have h1 := List.pairwise_iff_getElem.1 hap i j hil (List.getElem?_eq_some_iff.1 hj).1 hlt
          rw [(List.getElem?_eq_some_iff.1 hj).2, (List.getElem?_eq_some_iff.1 hi).2] at h1
          exact fun h => h1 h.symm
        · have h1 := List.pairwise_iff_getElem.1 hap j i (List.getElem?_eq_some_iff.1 hj).1 hil hlt
          rw [(List.getElem?_eq_some_iff.1 hj).2, (List.getElem?_eq_some_iff.1 hi).2] at h1
          exact h1
      refine ⟨(hw.own x hx').1, ?_⟩
      rw [setRow_other w e.b x.b _ hne]
      exact (hw.own x hx').2
  · have hm : (H.set i ⟨e.b, cs', e.t⟩).map (·.b) = H.map (·.b) := by
      apply List.ext_getElem?
      intro j
      simp only [List.getElem?_map, List.getElem?_set]
      by_cases hij : i = j
      · subst hij; simp [hil, (List.getElem?_eq_some_iff.1 hi).2]
      · simp [hij]
    have := List.pairwise_map.2 hap
    rw [← hm] at this
    exact List.pairwise_map.1 this
/-- a store into an own block -/
theorem lst (i : Nat) {t : TypeId} {p x : Operand} {e : Ent} {o k : Nat} {vx : Value} {vs cs' : List Value} (hi : H[i]? = some e) (hp : ev n F p = .pointer (some ⟨e.b, o, none⟩))
    (hx : ev n F x = vx) (hvs : vx.cells = vs.toArray) (hk : ∀ w, (Go.sizeOf t).run P w = .ok k w) (hl : vs.length = k) (hol : o + vs.length ≤ e.cs.length) (h1 : ∀ v ∈ vs, v.oneCell' = true)
    (hcs : e.cs.take o ++ vs ++ e.cs.drop (o + vs.length) = cs') (h : WL P ops Q w0 (H.set i ⟨e.b, cs', e.t⟩) rest n F) :
    WL P ops Q w0 H (⟨none, .store t p x, ty, pos, af, none⟩ :: rest) n F :=
  fun w hw => wpList_plain rfl fun K hK => by
    have hs := hw.set hi cs'
    have hb := (hw.own e (List.mem_of_getElem? hi)).2
    have hst := run_storeCells_at P e.b o e.t vs 0 e.cs.toArray w hb (by simpa using hol) h1
    have hr : (execOp (fr n F).eval ⟨none, .store t p x, ty, pos, af, none⟩).run P w = .ok .skip (w.setRow e.b cs'.toArray) := by
      simp only [Nat.add_zero] at hst
      simp [execOp, fr_eval, hp, hx, Instr.storeAt, Instr.sureAddr, storeVar, hk, hvs, hst, ← hcs, hl]
    unfold Oper.wp
    rw [hr]
    exact hK _ _ (by rw [fr_put_none]; exact h _ hs)
theorem lsti (i : Nat) {t : TypeId} {p x : Operand} {e : Ent} {o : Nat} {cs' : List Value} {k : IntKind} {a : Int} (hi : H[i]? = some e) (hp : ev n F p = .pointer (some ⟨e.b, o, none⟩))
    (hx : ev n F x = .int k a) (hk : ∀ w, (Go.sizeOf t).run P w = .ok 1 w) (hol : o < e.cs.length)
    (hcs : e.cs.set o (.int k a) = cs') (h : WL P ops Q w0 (H.set i ⟨e.b, cs', e.t⟩) rest n F) :
    WL P ops Q w0 H (⟨none, .store t p x, ty, pos, af, none⟩ :: rest) n F := lst (vs := [.int k a]) i hi hp hx rfl hk rfl hol (one1 rfl) (by rw [← hcs, List.set_eq_take_append_cons_drop, if_pos hol]; simp) h
theorem lstb (i : Nat) {t : TypeId} {p x : Operand} {e : Ent} {o : Nat} {cs' : List Value} {a : Bool} (hi : H[i]? = some e) (hp : ev n F p = .pointer (some ⟨e.b, o, none⟩))
    (hx : ev n F x = .bool a) (hk : ∀ w, (Go.sizeOf t).run P w = .ok 1 w) (hol : o < e.cs.length)
    (hcs : e.cs.set o (.bool a) = cs') (h : WL P ops Q w0 (H.set i ⟨e.b, cs', e.t⟩) rest n F) :
    WL P ops Q w0 H (⟨none, .store t p x, ty, pos, af, none⟩ :: rest) n F := lst (vs := [.bool a]) i hi hp hx rfl hk rfl hol (one1 rfl) (by rw [← hcs, List.set_eq_take_append_cons_drop, if_pos hol]; simp) h
theorem lsta (i : Nat) {t : TypeId} {p x : Operand} {e : Ent} {o k : Nat} {cs cs' : List Value} (hi : H[i]? = some e) (hp : ev n F p = .pointer (some ⟨e.b, o, none⟩))
    (hx : ev n F x = .agg cs.toArray) (hk : ∀ w, (Go.sizeOf t).run P w = .ok k w) (hl : cs.length = k) (hol : o + cs.length ≤ e.cs.length) (h1 : cs.all (·.oneCell') = true)
    (hcs : e.cs.take o ++ cs ++ e.cs.drop (o + cs.length) = cs') (h : WL P ops Q w0 (H.set i ⟨e.b, cs', e.t⟩) rest n F) :
    WL P ops Q w0 H (⟨none, .store t p x, ty, pos, af, none⟩ :: rest) n F := lst i hi hp hx rfl hk hl hol (oneA h1) hcs h
/-- an own block overwritten whole -/
theorem lstw (i : Nat) {t : TypeId} {p x : Operand} {e : Ent} {k : Nat} {cs : List Value} (hi : H[i]? = some e) (hp : ev n F p = .pointer (some ⟨e.b, 0, none⟩))
    (hx : ev n F x = .agg cs.toArray) (hk : ∀ w, (Go.sizeOf t).run P w = .ok k w) (hl : cs.length = k) (hol : e.cs.length = k) (h1 : cs.all (·.oneCell') = true)
    (h : WL P ops Q w0 (H.set i ⟨e.b, cs, e.t⟩) rest n F) :
    WL P ops Q w0 H (⟨none, .store t p x, ty, pos, af, none⟩ :: rest) n F := lst i hi hp hx rfl hk hl (by omega) (oneA h1) (by simp [hl, ← hol]) h
theorem lsts (i : Nat) {t : TypeId} {p x : Operand} {e : Ent} {o : Nat} {cs' : List Value} {pp : Option Addr} {m c : Nat} (hi : H[i]? = some e) (hp : ev n F p = .pointer (some ⟨e.b, o, none⟩))
    (hx : ev n F x = .slice pp m c) (hk : ∀ w, (Go.sizeOf t).run P w = .ok 1 w) (hol : o < e.cs.length)
    (hcs : e.cs.set o (.slice pp m c) = cs') (h : WL P ops Q w0 (H.set i ⟨e.b, cs', e.t⟩) rest n F) :
    WL P ops Q w0 H (⟨none, .store t p x, ty, pos, af, none⟩ :: rest) n F := lst (vs := [.slice pp m c]) i hi hp hx rfl hk rfl hol (one1 rfl) (by rw [← hcs, List.set_eq_take_append_cons_drop, if_pos hol]; simp) h
theorem lstt (i : Nat) {t : TypeId} {p x : Operand} {e : Ent} {o : Nat} {cs' : List Value} {a : ByteArray} (hi : H[i]? = some e) (hp : ev n F p = .pointer (some ⟨e.b, o, none⟩))
    (hx : ev n F x = .string a) (hk : ∀ w, (Go.sizeOf t).run P w = .ok 1 w) (hol : o < e.cs.length)
    (hcs : e.cs.set o (.string a) = cs') (h : WL P ops Q w0 (H.set i ⟨e.b, cs', e.t⟩) rest n F) :
    WL P ops Q w0 H (⟨none, .store t p x, ty, pos, af, none⟩ :: rest) n F := lst (vs := [.string a]) i hi hp hx rfl hk rfl hol (one1 rfl) (by rw [← hcs, List.set_eq_take_append_cons_drop, if_pos hol]; simp) h
theorem lstf (i : Nat) {t : TypeId} {p x : Operand} {e : Ent} {o : Nat} {cs' : List Value} {ff : Fn} {x1 x2 : Array Value} (hi : H[i]? = some e) (hp : ev n F p = .pointer (some ⟨e.b, o, none⟩))
    (hx : ev n F x = .func ff x1 x2) (hk : ∀ w, (Go.sizeOf t).run P w = .ok 1 w) (hol : o < e.cs.length)
    (hcs : e.cs.set o (.func ff x1 x2) = cs') (h : WL P ops Q w0 (H.set i ⟨e.b, cs', e.t⟩) rest n F) :
    WL P ops Q w0 H (⟨none, .store t p x, ty, pos, af, none⟩ :: rest) n F := lst (vs := [.func ff x1 x2]) i hi hp hx rfl hk rfl hol (one1 rfl) (by rw [← hcs, List.set_eq_take_append_cons_drop, if_pos hol]; simp) h
theorem lstm (i : Nat) {t : TypeId} {p x : Operand} {e : Ent} {o : Nat} {cs' : List Value} {r : Option Nat} (hi : H[i]? = some e) (hp : ev n F p = .pointer (some ⟨e.b, o, none⟩))
    (hx : ev n F x = .map r) (hk : ∀ w, (Go.sizeOf t).run P w = .ok 1 w) (hol : o < e.cs.length)
    (hcs : e.cs.set o (.map r) = cs') (h : WL P ops Q w0 (H.set i ⟨e.b, cs', e.t⟩) rest n F) :
    WL P ops Q w0 H (⟨none, .store t p x, ty, pos, af, none⟩ :: rest) n F := lst (vs := [.map r]) i hi hp hx rfl hk rfl hol (one1 rfl) (by rw [← hcs, List.set_eq_take_append_cons_drop, if_pos hol]; simp) h
theorem wl_sub {H' : List Ent} (hs : H'.Sublist H) (h : WL P ops Q w0 H' rest n F) : WL P ops Q w0 H rest n F := fun w hw => h w (hw.sub hs)
end


/-! ### code -/
def WC (P : Program) (Q : Exit → Act → World → Prop) (w0 : World) (H : List Ent) (c : Code) (n : Nat) (F : Nat → Value) : Prop := ∀ w, Sat w0 H w → c.wp P Q (fr n F) w
/-- a way out -/
def NQ (Q : Exit → Act → World → Prop) (w0 : World) (H : List Ent) (e : Exit) (n : Nat) (F : Nat → Value) : Prop := ∀ w, Sat w0 H w → Q e (fr n F) w
section
variable {P : Program} {Q : Exit → Act → World → Prop} {w0 : World} {H : List Ent} {n : Nat} {F : Nat → Value} {x y : Code} {id : Nat} {l : List Oper}
abbrev TQ (P : Program) (Q : Exit → Act → World → Prop) (y : Code) : Exit → Act → World → Prop := Exit.then (fun a w => y.wp P Q a w) Q
theorem cseq (h : WC P (TQ P Q y) w0 H x n F) : WC P Q w0 H (.seq x y) n F := fun w hw => wp_seq (h w hw)
theorem creg (h : WL P l.toArray Q w0 H l n F) : WC P Q w0 H (.region id l.toArray false) n F := fun w hw => wp_region_lit (h w hw)
theorem lnil {ops : Array Oper} (h : NQ Q w0 H .normal n F) : WL P ops Q w0 H [] n F := fun w hw => wpList_nil (h w hw)
theorem cregq (hm : P.follows .mixedOrders = true) (hB : Region.lexB .any l.toArray = true) (h : WQ P l.toArray w0 H (fun a' => ∀ w', Sat w0 H w' → Q .normal a' w') l n F) :
    WC P Q w0 H (.region id l.toArray true) n F := fun w hw => wp_region_quiet hm hB hw.drew (by simpa [WQ] using h)
theorem qnil {ops : Array Oper} (h : NQ Q w0 H .normal n F) : WQ P ops w0 H (fun a' => ∀ w', Sat w0 H w' → Q .normal a' w') [] n F := wpQuiet_nil h
theorem cskip (h : NQ Q w0 H .normal n F) : WC P Q w0 H .skip n F := fun w hw => wp_skip (h w hw)
theorem cret (h : NQ Q w0 H .ret n F) : WC P Q w0 H .ret n F := fun w hw => wp_ret (h w hw)
theorem cexit (h : NQ Q w0 H (.exit id) n F) : WC P Q w0 H (.exit id) n F := fun w hw => wp_exit (h w hw)
theorem cblock (h : WC P (Exit.inBlock id Q) w0 H x n F) : WC P Q w0 H (.block id x) n F := fun w hw => wp_block (h w hw)
theorem cif {c : Operand} {b : Bool} (hc : ev n F c = .bool b) (ht : b = true → WC P Q w0 H x n F) (hf : b = false → WC P Q w0 H y n F) : WC P Q w0 H (.cond c x y) n F :=
  fun w hw => wp_cond_split (t := b) (by rw [fr_eval]; exact hc) (fun h => ht h w hw) (fun h => hf h w hw)
theorem cift {c : Operand} (hc : ev n F c = .bool true) (ht : WC P Q w0 H x n F) : WC P Q w0 H (.cond c x y) n F := fun w hw => wp_cond_true (by rw [fr_eval]; exact hc) (ht w hw)
theorem ciff {c : Operand} (hc : ev n F c = .bool false) (hf : WC P Q w0 H y n F) : WC P Q w0 H (.cond c x y) n F := fun w hw => wp_cond_false (by rw [fr_eval]; exact hc) (hf w hw)
theorem nthen (h : WC P Q w0 H y n F) : NQ (TQ P Q y) w0 H .normal n F := fun w hw => h w hw
theorem nthenR (h : NQ Q w0 H .ret n F) : NQ (TQ P Q y) w0 H .ret n F := fun w hw => h w hw
theorem nthenE (h : NQ Q w0 H (.exit id) n F) : NQ (TQ P Q y) w0 H (.exit id) n F := fun w hw => h w hw
theorem nblkN (h : NQ Q w0 H .normal n F) : NQ (Exit.inBlock id Q) w0 H .normal n F := fun w hw => h w hw
theorem nblkR (h : NQ Q w0 H .ret n F) : NQ (Exit.inBlock id Q) w0 H .ret n F := fun w hw => h w hw
theorem nblkE (h : NQ Q w0 H .normal n F) : NQ (Exit.inBlock id Q) w0 H (.exit id) n F := fun w hw => by
  show (if id = id then _ else _); rw [if_pos rfl]; exact h w hw
theorem nblkO {id' : Nat} (hne : id' ≠ id) (h : NQ Q w0 H (.exit id') n F) : NQ (Exit.inBlock id Q) w0 H (.exit id') n F := fun w hw => by
  show (if id' = id then _ else _); rw [if_neg hne]; exact h w hw
theorem wc_sub {H' : List Ent} (hs : H'.Sublist H) (h : WC P Q w0 H' x n F) : WC P Q w0 H x n F := fun w hw => h w (hw.sub hs)
/-- at most k rounds of a loop -/
def WR (P : Program) (Q : Exit → Act → World → Prop) (w0 : World) (H : List Ent) (c : Code) (k n : Nat) (F : Nat → Value) : Prop := ∀ w, Sat w0 H w → Code.rounds P c Q k (fr n F) w
theorem cloopN (k : Nat) (h : WR P Q w0 H x k n F) : WC P Q w0 H (.loop x) n F := fun w hw => wp_loop_rounds k (h w hw)
abbrev RQ (P : Program) (Q : Exit → Act → World → Prop) (x : Code) (k : Nat) : Exit → Act → World → Prop := Exit.then (Code.rounds P x Q k) Q
theorem rsucc {k : Nat} (h : WC P (RQ P Q x k) w0 H x n F) : WR P Q w0 H x (k + 1) n F := fun w hw => h w hw
theorem nround {k : Nat} (h : WR P Q w0 H x k n F) : NQ (RQ P Q x k) w0 H .normal n F := fun w hw => h w hw
theorem nroundR {k : Nat} (h : NQ Q w0 H .ret n F) : NQ (RQ P Q x k) w0 H .ret n F := fun w hw => h w hw
theorem nroundE {k : Nat} (h : NQ Q w0 H (.exit id) n F) : NQ (RQ P Q x k) w0 H (.exit id) n F := fun w hw => h w hw

/-- the frame j with these slots laid over it -/
def over (j : Nat → Value) : List (Nat × Value) → Nat → Value
  | [] => j
  | (t, v) :: r => upd (over j r) t v
def AllEq (F : Nat → Value) : List (Nat × Value) → Prop
  | [] => True
  | (t, v) :: r => F t = v ∧ AllEq F r
theorem over_same {F : Nat → Value} : ∀ {l : List (Nat × Value)}, AllEq F l → over F l = F
  | [], _ => rfl
  | (t, v) :: r, h => by
    funext s
    simp only [over, upd, over_same h.2]
    cases hb : Nat.beq s t with
    | true => obtain rfl := Nat.eq_of_beq_eq_true hb; exact h.1.symm
    | false => rfl
/-- a loop's next state -/
def IQ {σ : Type} (w0 : World) (n : Nat) (ov : σ → List (Nat × Value)) (Hs : σ → List Ent) (I : σ → Prop) (μ : σ → Nat) (s : σ) : Act → World → Prop :=
  fun a w => ∃ s' j, I s' ∧ μ s' < μ s ∧ a = fr n (over j (ov s')) ∧ Sat w0 (Hs s') w
theorem cloopI {σ : Type} (ov : σ → List (Nat × Value)) (Hs : σ → List Ent) (I : σ → Prop) (μ : σ → Nat)
    (s : σ) (hI : I s) (hF : AllEq F (ov s)) (hH : (Hs s).Sublist H)
    (round : ∀ s j, I s → WC P (Exit.then (IQ w0 n ov Hs I μ s) Q) w0 (Hs s) x n (over j (ov s))) : WC P Q w0 H (.loop x) n F := by
  have key : ∀ m s j w, μ s < m → I s → Sat w0 (Hs s) w → Code.rounds P x Q m (fr n (over j (ov s))) w := by
    intro m
    induction m with
    | zero => intro s j w hm; omega
    | succ m ih =>
      intro s j w hm hI hw
      refine Code.wp_mono (fun e a w q => ?_) (round s j hI w hw)
      cases e <;> first | exact q | skip
      obtain ⟨s', j', h1, h2, h3, h4⟩ := q
      subst h3
      exact ih s' j' w (by omega) h1 h4
  refine cloopN (μ s + 1) fun w hw => ?_
  have := key (μ s + 1) s F w (by omega) hI (hw.sub hH)
  rwa [over_same hF] at this
theorem nI {σ : Type} {ov : σ → List (Nat × Value)} {Hs : σ → List Ent} {I : σ → Prop} {μ : σ → Nat} {s : σ} (s' : σ) (hI : I s') (hμ : μ s' < μ s) (hF : AllEq F (ov s'))
    (hH : (Hs s').Sublist H) : NQ (Exit.then (IQ w0 n ov Hs I μ s) Q) w0 H .normal n F := fun w hw =>
  ⟨s', F, hI, hμ, by rw [over_same hF], hw.sub hH⟩
theorem nIR {J : Act → World → Prop} (h : NQ Q w0 H .ret n F) : NQ (Exit.then J Q) w0 H .ret n F := fun w hw => h w hw
theorem nIE {J : Act → World → Prop} (h : NQ Q w0 H (.exit id) n F) : NQ (Exit.then J Q) w0 H (.exit id) n F := fun w hw => h w hw

/-! ### functions -/
def argF (args : Array Value) : Nat → Value := fun t => args.getD t undef
theorem fn_calls {f : FuncId} {fn : Func} {c : Code} {args : Array Value} {w : World} {R : Ending → World → Prop} (hf : P.funcs[f]? = some fn) (hb : fn.body = some c) (hn : fn.ntmps = n)
    (ha : args.size ≤ n) (h : WC P (bodyPost P fn R) w [] c n (argF args)) : Calls P f args w R := by
  refine calls_of_wp hf hb ?_
  have he : ({ tmps := args ++ Array.replicate (fn.ntmps - args.size) undef, defers := [] } : Act) = fr n (argF args) := by
    unfold fr
    congr 1
    apply Array.ext_getElem?
    intro t
    have h2 := fr_get n (argF args) t
    rw [show ((List.range n).map (argF args)).toArray[t]? = (fr n (argF args)).tmps[t]? from rfl, h2]
    simp only [Array.getElem?_append, Array.getElem?_replicate, hn, argF]
    by_cases h1 : t < args.size
    · rw [if_pos h1, if_pos (by omega)]; simp [h1]
    · rw [if_neg h1]
      by_cases h3 : t < n
      · rw [if_pos (by omega), if_pos h3]; simp [h1]
      · rw [if_neg (by omega), if_neg h3]
  rw [he]
  exact h w (Sat.start w)
theorem fin {fn : Func} {v : Value} (hr : ∀ w, Sat w0 H w → (results fn (fr n F).tmps).run P w = .ok v w) : NQ (bodyPost P fn (Ret v w0)) w0 H .ret n F :=
  fun w hw => ⟨rfl, v, hr w hw, rfl, hw.below⟩
theorem fr_getD (t : Nat) : (fr n F).tmps.getD t undef = ev n F (.tmp t) := by rw [← fr_eval]; rfl
theorem fin1 {fn : Func} {t : Tmp} {v : Value} (hr : fn.results = #[.tmp t]) (hv : ev n F (.tmp t) = v) : NQ (bodyPost P fn (Ret v w0)) w0 H .ret n F :=
  fin fun w _ => by rw [results_tmp hr, fr_getD, hv]
theorem fin1v {fn : Func} {t : Tmp} {v v' : Value} (hr : fn.results = #[.tmp t]) (hv : ev n F (.tmp t) = v') (he : v' = v) : NQ (bodyPost P fn (Ret v w0)) w0 H .ret n F := by
  subst he; exact fin1 hr hv
theorem fin1b {fn : Func} {t : Tmp} {v v' : Bool} (hr : fn.results = #[.tmp t]) (hv : ev n F (.tmp t) = .bool v') (he : v' = v) : NQ (bodyPost P fn (Ret (.bool v) w0)) w0 H .ret n F := by
  subst he; exact fin1 hr hv
theorem fin1i {fn : Func} {t : Tmp} {k : IntKind} {v v' : Int} (hr : fn.results = #[.tmp t]) (hv : ev n F (.tmp t) = .int k v') (he : v' = v) : NQ (bodyPost P fn (Ret (.int k v) w0)) w0 H .ret n F := by
  subst he; exact fin1 hr hv
theorem finc (i : Nat) {fn : Func} {t : Tmp} {ty : TypeId} {e : Ent} {k : Nat} {vs : List Value} (hr : fn.results = #[.cell t ty]) (ha : ∀ w, (isAgg ty).run P w = .ok true w)
    (hk : ∀ w, (Go.sizeOf ty).run P w = .ok k w) (hi : H[i]? = some e) (hx : ev n F (.tmp t) = .pointer (some ⟨e.b, 0, none⟩)) (hl : vs.length = k) (hv : e.cs = vs) :
    NQ (bodyPost P fn (Ret (.agg vs.toArray) w0)) w0 H .ret n F :=
  fin fun w hw => by
    have hm := hw.mem hi 0
    have hrn := run_loadCells_list (P := P) w ⟨e.b, 0, none⟩ vs (fun j v hj => hm j v (by rw [hv]; simpa using hj))
    rw [hl] at hrn
    have hg : (fr n F).tmps[t]?.getD undef = .pointer (some ⟨e.b, 0, none⟩) := by rw [← hx, ← fr_getD, Array.getD_eq_getD_getElem?]
    simp [results, hr, hg, asAddr, loadVar, ha, hk, hrn]
end

end Jal
/- words: bits moved, joined; numbers that wrap, as natural numbers -/
namespace Jal
open Go Go.RowKit
section
variable {P : Program} {C : World → Prop} {ρ : Operand → Value} {d : Option Tmp} {ty : TypeId} {pos : String} {af : Array Edge} {g : Option (Nat × Bool)} {t t' : TypeId} {x y : Operand}
theorem wrapU (k : IntKind) (hs : k.signed = false) (n : Nat) : k.wrap (n : Int) = ((n % 2 ^ k.bits : Nat) : Int) := by
  unfold IntKind.wrap
  rw [hs]
  simp
theorem ofIntN (m n : Nat) : BitVec.ofInt m (n : Int) = BitVec.ofNat m n := by
  apply BitVec.eq_of_toNat_eq
  simp [BitVec.toNat_ofInt]
/-- a kind without a sign, of m bits -/
structure Uk (k : IntKind) (m : Nat) : Prop where
  s : k.signed = false
  b : k.bits = m
theorem uk32 : Uk .u32 32 := ⟨rfl, rfl⟩
theorem uk64 : Uk .u64 64 := ⟨rfl, rfl⟩
theorem uk8 : Uk .u8 8 := ⟨rfl, rfl⟩
theorem Uk.w {k : IntKind} {m : Nat} (h : Uk k m) (n : Nat) : k.wrap (n : Int) = ((n % 2 ^ m : Nat) : Int) := by rw [wrapU k h.s, h.b]
theorem Uk.id {k : IntKind} {m : Nat} (h : Uk k m) {n : Nat} (hn : n < 2 ^ m) : k.wrap (n : Int) = (n : Int) := by rw [h.w, Nat.mod_eq_of_lt hn]
theorem uadd {k : IntKind} {m a b : Nat} (h : Uk k m) (hx : ρ x = .int k (a : Int)) (hy : ρ y = .int k (b : Int)) : Qu P C ρ ⟨d, .binOp .add t x y t', ty, pos, af, g⟩ (.int k (((a + b) % 2 ^ m : Nat) : Int)) := by
  have h1 := add (P := P) (C := C) (d := d) (ty := ty) (pos := pos) (af := af) (g := g) (t := t) (t' := t') hx hy
  rwa [← Int.natCast_add, h.w] at h1
theorem umul {k : IntKind} {m a b : Nat} (h : Uk k m) (hx : ρ x = .int k (a : Int)) (hy : ρ y = .int k (b : Int)) : Qu P C ρ ⟨d, .binOp .mul t x y t', ty, pos, af, g⟩ (.int k (((a * b) % 2 ^ m : Nat) : Int)) := by
  have h1 := mul (P := P) (C := C) (d := d) (ty := ty) (pos := pos) (af := af) (g := g) (t := t) (t' := t') hx hy
  rwa [← Int.natCast_mul, h.w] at h1
theorem run_bits {P : Program} {w : World} {op : BinOp} {k : IntKind} {m a b r : Nat} (h : Uk k m) (ha : a < 2 ^ m) (hb : b < 2 ^ m) (hop : op = .and ∧ r = a &&& b ∨ op = .or ∧ r = a ||| b ∨ op = .xor ∧ r = a ^^^ b) :
    (Op.intBits op k (a : Int) (b : Int)).run P w = .ok (.int k (r : Int)) w := by
  have hkb := h.b
  have hk : ∀ n : Nat, n < 2 ^ m → k.wrap (n : Int) = (n : Int) := fun n hn => h.id hn
  obtain ⟨hs, hm⟩ := h
  subst hm
  rcases hop with ⟨rfl, rfl⟩ | ⟨rfl, rfl⟩ | ⟨rfl, rfl⟩
  · have : (BitVec.ofInt k.bits (a : Int) &&& BitVec.ofInt k.bits (b : Int)).toNat = a &&& b := by
      rw [ofIntN, ofIntN, BitVec.toNat_and, BitVec.toNat_ofNat, BitVec.toNat_ofNat, Nat.mod_eq_of_lt ha, Nat.mod_eq_of_lt hb]
    simp only [Op.intBits, this]
    rw [hk _ (Nat.and_lt_two_pow _ hb)]; rfl
  · have : (BitVec.ofInt k.bits (a : Int) ||| BitVec.ofInt k.bits (b : Int)).toNat = a ||| b := by
      rw [ofIntN, ofIntN, BitVec.toNat_or, BitVec.toNat_ofNat, BitVec.toNat_ofNat, Nat.mod_eq_of_lt ha, Nat.mod_eq_of_lt hb]
    simp only [Op.intBits, this]
    rw [hk _ (Nat.or_lt_two_pow ha hb)]; rfl
  · have : (BitVec.ofInt k.bits (a : Int) ^^^ BitVec.ofInt k.bits (b : Int)).toNat = a ^^^ b := by
      rw [ofIntN, ofIntN, BitVec.toNat_xor, BitVec.toNat_ofNat, BitVec.toNat_ofNat, Nat.mod_eq_of_lt ha, Nat.mod_eq_of_lt hb]
    simp only [Op.intBits, this]
    rw [hk _ (Nat.xor_lt_two_pow ha hb)]; rfl
theorem uand {k : IntKind} {m a b : Nat} (h : Uk k m) (ha : a < 2 ^ m) (hb : b < 2 ^ m) (hx : ρ x = .int k (a : Int)) (hy : ρ y = .int k (b : Int)) : Qu P C ρ ⟨d, .binOp .and t x y t', ty, pos, af, g⟩ (.int k ((a &&& b : Nat) : Int)) :=
  qu_of_run fun w _ => by
    have := run_bits (P := P) (w := w) (op := .and) h ha hb (.inl ⟨rfl, rfl⟩)
    simp [execOp, hx, hy, binOp, eqGuard, this]
theorem uor {k : IntKind} {m a b : Nat} (h : Uk k m) (ha : a < 2 ^ m) (hb : b < 2 ^ m) (hx : ρ x = .int k (a : Int)) (hy : ρ y = .int k (b : Int)) : Qu P C ρ ⟨d, .binOp .or t x y t', ty, pos, af, g⟩ (.int k ((a ||| b : Nat) : Int)) :=
  qu_of_run fun w _ => by
    have := run_bits (P := P) (w := w) (op := .or) h ha hb (.inr (.inl ⟨rfl, rfl⟩))
    simp [execOp, hx, hy, binOp, eqGuard, this]
theorem uxor {k : IntKind} {m a b : Nat} (h : Uk k m) (ha : a < 2 ^ m) (hb : b < 2 ^ m) (hx : ρ x = .int k (a : Int)) (hy : ρ y = .int k (b : Int)) : Qu P C ρ ⟨d, .binOp .xor t x y t', ty, pos, af, g⟩ (.int k ((a ^^^ b : Nat) : Int)) :=
  qu_of_run fun w _ => by
    have := run_bits (P := P) (w := w) (op := .xor) h ha hb (.inr (.inr ⟨rfl, rfl⟩))
    simp [execOp, hx, hy, binOp, eqGuard, this]
theorem unot32 {a : Nat} (ha : a < 2 ^ 32) (hx : ρ x = .int .u32 (a : Int)) : Qu P C ρ ⟨d, .unOp .xor t x, ty, pos, af, g⟩ (.int .u32 ((4294967295 ^^^ a : Nat) : Int)) :=
  qu_of_run fun w _ => by
    have := run_bits (P := P) (w := w) (op := .xor) uk32 (a := 4294967295) (by decide) ha (.inr (.inr ⟨rfl, rfl⟩))
    have e : (IntKind.u32.max : Int) = ((4294967295 : Nat) : Int) := by decide
    have h2 : (Op.unary .xor (.int .u32 (a : Int))).run P w = .ok (.int .u32 ((4294967295 ^^^ a : Nat) : Int)) w := this
    simp only [execOp, hx]
    rw [Sem.run_bind, h2]; rfl
/-- moved down -/
theorem ushr {k ky : IntKind} {m a n : Nat} (h : Uk k m) (hn : n ≤ m) (hx : ρ x = .int k (a : Int)) (hy : ρ y = .int ky (n : Int)) : Qu P C ρ ⟨d, .binOp .shr t x y t', ty, pos, af, g⟩ (.int k ((a / 2 ^ n : Nat) : Int)) :=
  qu_of_run fun w _ => by
    have h1 : ¬ ((n : Int) < 0) := by omega
    have h2 : min n k.bits = n := by rw [h.b]; omega
    have h3 : ((a : Int)).fdiv (2 ^ n) = ((a / 2 ^ n : Nat) : Int) := by
      rw [show ((2 : Int) ^ n) = ((2 ^ n : Nat) : Int) by norm_cast]
      exact (Int.ofNat_fdiv a (2 ^ n)).symm
    simp [execOp, hx, hy, binOp, eqGuard, Op.shift, h1, h2, h3]
/-- moved up -/
theorem ushl {k ky : IntKind} {m a n : Nat} (h : Uk k m) (hn : n ≤ m) (hx : ρ x = .int k (a : Int)) (hy : ρ y = .int ky (n : Int)) : Qu P C ρ ⟨d, .binOp .shl t x y t', ty, pos, af, g⟩ (.int k ((a * 2 ^ n % 2 ^ m : Nat) : Int)) :=
  qu_of_run fun w _ => by
    have h1 : ¬ ((n : Int) < 0) := by omega
    have h2 : min n k.bits = n := by rw [h.b]; omega
    have h3 : ((a : Int)) * (2 ^ n) = ((a * 2 ^ n : Nat) : Int) := by
      rw [show ((2 : Int) ^ n) = ((2 ^ n : Nat) : Int) by norm_cast, Int.natCast_mul]
    simp only [execOp, hx, hy, binOp, eqGuard, Op.shift, h1, if_false, Int.toNat_natCast, h2, h3, h.w]
    rfl
end
end Jal
/- the hash, in plain words: bytes are natural numbers below 256, words natural numbers below 2^32 -/
namespace Jal
open Go
def rr (n x : Nat) : Nat := x * 2 ^ (32 - n) % 2 ^ 32 ||| x / 2 ^ n
def ad (a b : Nat) : Nat := (a + b) % 2 ^ 32
def bigN (l : List Nat) : Nat := l.foldl (fun a x => a * 2 ^ 8 % 2 ^ 64 ||| x) 0
def wrd (b : List Nat) (i : Nat) : Nat := bigN ((b.drop (4 * i)).take 4) % 2 ^ 32
def lowS (a : Nat) : Nat := rr 7 a ^^^ rr 18 a ^^^ a / 2 ^ 3
def highS (a : Nat) : Nat := rr 17 a ^^^ rr 19 a ^^^ a / 2 ^ 10
def nextW (w : List Nat) (i : Nat) : Nat := ad (ad (ad (w.getD (i - 16) 0) (lowS (w.getD (i - 15) 0))) (w.getD (i - 7) 0)) (highS (w.getD (i - 2) 0))
def stepW (b w : List Nat) (i : Nat) : List Nat := w ++ [bif Nat.blt i 16 then wrd b i else nextW w i]
def sprN (b : List Nat) (n : Nat) : List Nat := (List.range n).foldl (stepW b) []
def spr (b : List Nat) : List Nat := sprN b 64
structure St where
  (a b c d e f g h : Nat)
def rnd (v : St) (k w : Nat) : St :=
  let t := ad (ad (ad (ad v.h (rr 6 v.e ^^^ rr 11 v.e ^^^ rr 25 v.e)) ((v.e &&& v.f) ^^^ ((4294967295 ^^^ v.e) &&& v.g))) k) w
  let u := ad (rr 2 v.a ^^^ rr 13 v.a ^^^ rr 22 v.a) ((v.a &&& v.b) ^^^ (v.a &&& v.c) ^^^ (v.b &&& v.c))
  ⟨ad t u, v.a, v.b, v.c, ad v.d t, v.e, v.f, v.g⟩
def KS : List Nat := [
  0x428a2f98, 0x71374491, 0xb5c0fbcf, 0xe9b5dba5, 0x3956c25b, 0x59f111f1, 0x923f82a4, 0xab1c5ed5,
  0xd807aa98, 0x12835b01, 0x243185be, 0x550c7dc3, 0x72be5d74, 0x80deb1fe, 0x9bdc06a7, 0xc19bf174,
  0xe49b69c1, 0xefbe4786, 0x0fc19dc6, 0x240ca1cc, 0x2de92c6f, 0x4a7484aa, 0x5cb0a9dc, 0x76f988da,
  0x983e5152, 0xa831c66d, 0xb00327c8, 0xbf597fc7, 0xc6e00bf3, 0xd5a79147, 0x06ca6351, 0x14292967,
  0x27b70a85, 0x2e1b2138, 0x4d2c6dfc, 0x53380d13, 0x650a7354, 0x766a0abb, 0x81c2c92e, 0x92722c85,
  0xa2bfe8a1, 0xa81a664b, 0xc24b8b70, 0xc76c51a3, 0xd192e819, 0xd6990624, 0xf40e3585, 0x106aa070,
  0x19a4c116, 0x1e376c08, 0x2748774c, 0x34b0bcb5, 0x391c0cb3, 0x4ed8aa4a, 0x5b9cca4f, 0x682e6ff3,
  0x748f82ee, 0x78a5636f, 0x84c87814, 0x8cc70208, 0x90befffa, 0xa4506ceb, 0xbef9a3f7, 0xc67178f2]
def rndsN (w : List Nat) (s : St) (n : Nat) : St := (List.range n).foldl (fun v i => rnd v (KS.getD i 0) (w.getD i 0)) s
def addS (s v : St) : St := ⟨ad s.a v.a, ad s.b v.b, ad s.c v.c, ad s.d v.d, ad s.e v.e, ad s.f v.f, ad s.g v.g, ad s.h v.h⟩
def mixS (b : List Nat) (s : St) : St := addS s (rndsN (spr b) s 64)
def s0 : St := ⟨1779033703, 3144134277, 1013904242, 2773480762, 1359893119, 2600822924, 528734635, 1541459225⟩
def bytes32 (x : Nat) : List Nat := [x / 2 ^ 24 % 256, x / 2 ^ 16 % 256, x / 2 ^ 8 % 256, x / 2 ^ 0 % 256]
def outS (s : St) : List Nat := bytes32 s.a ++ bytes32 s.b ++ bytes32 s.c ++ bytes32 s.d ++ bytes32 s.e ++ bytes32 s.f ++ bytes32 s.g ++ bytes32 s.h
def bytes64 (x : Nat) : List Nat := [x / 2 ^ 56 % 256, x / 2 ^ 48 % 256, x / 2 ^ 40 % 256, x / 2 ^ 32 % 256, x / 2 ^ 24 % 256, x / 2 ^ 16 % 256, x / 2 ^ 8 % 256, x / 2 ^ 0 % 256]
/-- how many zeros stand behind the first further byte -/
def zerosN (n : Nat) : Nat := (119 - n % 64) % 64
def padL (l : List Nat) : List Nat := l ++ 128 :: List.replicate (zerosN l.length) 0 ++ bytes64 (8 * l.length % 2 ^ 64)
def blocksN (l : List Nat) (n : Nat) : St := (List.range n).foldl (fun s i => mixS ((l.drop (64 * i)).take 64) s) s0
def shaL (l : List Nat) : List Nat := outS (blocksN (padL l) ((padL l).length / 64))
def keyX (k : List Nat) (x : Nat) : List Nat := (List.range 64).map fun i => k.getD i 0 ^^^ x
def macL (k m : List Nat) : List Nat := shaL (keyX k 92 ++ shaL (keyX k 54 ++ m))
def deriveL (k info : List Nat) : List Nat := macL k (info ++ [1])

/-! ### bounds -/
theorem and_b {m a b : Nat} (ha : a < 2 ^ m) : a &&& b < 2 ^ m := Nat.lt_of_le_of_lt Nat.and_le_left ha
theorem xor_b {m a b : Nat} (ha : a < 2 ^ m) (hb : b < 2 ^ m) : a ^^^ b < 2 ^ m := Nat.xor_lt_two_pow ha hb
theorem or_b {m a b : Nat} (ha : a < 2 ^ m) (hb : b < 2 ^ m) : a ||| b < 2 ^ m := Nat.or_lt_two_pow ha hb
theorem ad_b (a b : Nat) : ad a b < 2 ^ 32 := Nat.mod_lt _ (by decide)
theorem div_b {m a : Nat} (n : Nat) (ha : a < 2 ^ m) : a / 2 ^ n < 2 ^ m := Nat.lt_of_le_of_lt (Nat.div_le_self _ _) ha
theorem rr_b {x : Nat} (n : Nat) (hx : x < 2 ^ 32) : rr n x < 2 ^ 32 := or_b (Nat.mod_lt _ (by decide)) (div_b n hx)
theorem lowS_b {x : Nat} (hx : x < 2 ^ 32) : lowS x < 2 ^ 32 := xor_b (xor_b (rr_b _ hx) (rr_b _ hx)) (div_b 3 hx)
theorem highS_b {x : Nat} (hx : x < 2 ^ 32) : highS x < 2 ^ 32 := xor_b (xor_b (rr_b _ hx) (rr_b _ hx)) (div_b 10 hx)
def OkW (l : List Nat) : Prop := ∀ i, l.getD i 0 < 2 ^ 32
theorem wrd_b (b : List Nat) (i : Nat) : wrd b i < 2 ^ 32 := Nat.mod_lt _ (by decide)
theorem sprN_succ (b : List Nat) (n : Nat) : sprN b (n + 1) = stepW b (sprN b n) n := by unfold sprN; rw [List.range_succ, List.foldl_append]; rfl
theorem sprN_len (b : List Nat) : ∀ n, (sprN b n).length = n
  | 0 => rfl
  | n + 1 => by rw [sprN_succ, stepW, List.length_append, sprN_len b n]; rfl
theorem sprN_get (b : List Nat) (n i : Nat) (hi : i < n) : (sprN b (n + 1)).getD i 0 = (sprN b n).getD i 0 := by
  rw [sprN_succ, stepW]
  simp [List.getD_eq_getElem?_getD, List.getElem?_append, sprN_len, hi]
theorem sprN_last (b : List Nat) (n : Nat) : (sprN b (n + 1)).getD n 0 = bif Nat.blt n 16 then wrd b n else nextW (sprN b n) n := by
  rw [sprN_succ, stepW]
  simp [List.getD_eq_getElem?_getD, List.getElem?_append, sprN_len]
theorem sprN_over (b : List Nat) (n i : Nat) (h : n ≤ i) : (sprN b n).getD i 0 = 0 := by
  rw [List.getD_eq_getElem?_getD, List.getElem?_eq_none (by rw [sprN_len]; exact h)]; rfl
theorem lt32 : 0 < 2 ^ 32 := by decide
theorem cond_b {m a b : Nat} (c : Bool) (ha : a < m) (hb : b < m) : (bif c then a else b) < m := by cases c <;> assumption
theorem nextW_b (w : List Nat) (i : Nat) : nextW w i < 2 ^ 32 := by unfold nextW; exact ad_b _ _
theorem sprN_ok (b : List Nat) (n : Nat) : OkW (sprN b n) := by
  induction n with
  | zero => intro i; rw [sprN_over b 0 i (Nat.zero_le i)]; exact lt32
  | succ n ih =>
    intro i
    by_cases h : i < n
    · rw [sprN_get b n i h]; exact ih i
    · by_cases h2 : i = n
      · subst h2
        rw [sprN_last]
        exact cond_b _ (wrd_b b i) (nextW_b _ i)
      · rw [sprN_over b (n + 1) i (by omega)]; exact lt32
theorem spr_ok (b : List Nat) : OkW (spr b) := sprN_ok b 64
structure OkS (s : St) : Prop where
  a : s.a < 2 ^ 32
  b : s.b < 2 ^ 32
  c : s.c < 2 ^ 32
  d : s.d < 2 ^ 32
  e : s.e < 2 ^ 32
  f : s.f < 2 ^ 32
  g : s.g < 2 ^ 32
  h : s.h < 2 ^ 32
theorem OkS.rnd {v : St} (hv : OkS v) (k w : Nat) : OkS (rnd v k w) := ⟨ad_b _ _, hv.a, hv.b, hv.c, ad_b _ _, hv.e, hv.f, hv.g⟩
theorem rndsN_succ (w : List Nat) (s : St) (n : Nat) : rndsN w s (n + 1) = rnd (rndsN w s n) (KS.getD n 0) (w.getD n 0) := by unfold rndsN; rw [List.range_succ, List.foldl_append]; rfl
theorem OkS.rndsN {s : St} (hs : OkS s) (w : List Nat) : ∀ n, OkS (rndsN w s n)
  | 0 => hs
  | n + 1 => by rw [rndsN_succ]; exact (OkS.rndsN hs w n).rnd _ _
theorem OkS.addS (s v : St) : OkS (addS s v) := ⟨ad_b _ _, ad_b _ _, ad_b _ _, ad_b _ _, ad_b _ _, ad_b _ _, ad_b _ _, ad_b _ _⟩
theorem OkS.mixS (b : List Nat) (s : St) : OkS (mixS b s) := OkS.addS _ _
theorem OkS.s0 : OkS s0 := ⟨by decide, by decide, by decide, by decide, by decide, by decide, by decide, by decide⟩
theorem blocksN_succ (l : List Nat) (n : Nat) : blocksN l (n + 1) = mixS ((l.drop (64 * n)).take 64) (blocksN l n) := by unfold blocksN; rw [List.range_succ, List.foldl_append]; rfl
theorem OkS.blocksN (l : List Nat) : ∀ n, OkS (blocksN l n)
  | 0 => OkS.s0
  | n + 1 => by rw [blocksN_succ]; exact OkS.mixS _ _
def OkB (l : List Nat) : Prop := ∀ x ∈ l, x < 256
theorem padL_len (l : List Nat) : (padL l).length = l.length + 9 + zerosN l.length := by
  unfold padL bytes64
  simp only [List.length_append, List.length_cons, List.length_replicate, List.length_nil]; omega
theorem padL_mod (l : List Nat) : (padL l).length % 64 = 0 := by rw [padL_len]; unfold zerosN; omega
theorem OkB.append {a b : List Nat} (ha : OkB a) (hb : OkB b) : OkB (a ++ b) := fun x hx => (List.mem_append.1 hx).elim (ha x) (hb x)
theorem OkB.bytes64 (x : Nat) : OkB (bytes64 x) := by
  intro y hy
  simp only [Jal.bytes64, List.mem_cons, List.not_mem_nil, or_false] at hy
  omega
theorem OkB.bytes32 (x : Nat) : OkB (bytes32 x) := by
  intro y hy
  simp only [Jal.bytes32, List.mem_cons, List.not_mem_nil, or_false] at hy
  omega
theorem OkB.padL {l : List Nat} (h : OkB l) : OkB (padL l) :=
  (h.append (fun x hx => by
    rcases List.mem_cons.1 hx with rfl | hx
    · decide
    · rw [(List.mem_replicate.1 hx).2]; decide)).append (OkB.bytes64 _)
theorem OkB.outS (s : St) : OkB (outS s) :=
  ((((((((OkB.bytes32 _).append (OkB.bytes32 _)).append (OkB.bytes32 _)).append (OkB.bytes32 _)).append (OkB.bytes32 _)).append (OkB.bytes32 _)).append (OkB.bytes32 _)).append (OkB.bytes32 _))
theorem OkB.shaL (l : List Nat) : OkB (shaL l) := OkB.outS _
theorem shaL_len (l : List Nat) : (shaL l).length = 32 := rfl
theorem OkB.macL (k m : List Nat) : OkB (macL k m) := OkB.outS _
theorem macL_len (k m : List Nat) : (macL k m).length = 32 := rfl
end Jal
/- memory that a call hands back, and append, in the walk's words -/
namespace Jal
open Go Go.RowKit

theorem Sat.perm {w0 : World} {H H' : List Ent} {w : World} (h : Sat w0 H w) (hp : H'.Perm H) : Sat w0 H' w :=
  ⟨h.below, fun e he => h.own e (hp.mem_iff.1 he), (hp.pairwise_iff (fun h => h.symm)).2 h.apart⟩
theorem put_perm (k : Nat) (X H : List Ent) : (H.take k ++ (X ++ H.drop k)).Perm (H ++ X) := by
  have h1 : (H.take k ++ (X ++ H.drop k)).Perm (H.take k ++ (H.drop k ++ X)) := List.Perm.append_left _ List.perm_append_comm
  have h2 : H.take k ++ (H.drop k ++ X) = H ++ X := by rw [← List.append_assoc, List.take_append_drop]
  rw [h2] at h1
  exact h1
theorem ins_perm (k : Nat) (x : Ent) (H : List Ent) : (H.take k ++ x :: H.drop k).Perm (H ++ [x]) := put_perm k [x] H
theorem Sat.join {w0 : World} {H Hn : List Ent} {w w' : World} (h : Sat w0 H w) (hn : Sat w Hn w') : Sat w0 (H ++ Hn) w' := by
  have h1 := h.step hn.below
  refine ⟨h1.below, fun e he => ?_, List.pairwise_append.2 ⟨h1.apart, hn.apart, fun x hx y hy => ?_⟩⟩
  · rcases List.mem_append.1 he with he | he
    · exact h1.own e he
    · obtain ⟨a, b⟩ := hn.own e he
      exact ⟨Nat.le_trans h.size a, b⟩
  · have := h.lt hx; have := (hn.own y hy).1; omega
/-- what comes back, with the blocks that are new -/
def RetM (φ : Value → List Ent → Prop) (w : World) : Ending → World → Prop := fun e w' => ∃ v H, e = .returned v ∧ φ v H ∧ Sat w H w'

/-- n elements of sz cells each, in one of these blocks, from its start on -/
def SlIn (H : List Ent) (p : Option Addr) (n sz : Nat) (el : Nat → List Value) : Prop :=
  n = 0 ∨ ∃ e ∈ H, p = some ⟨e.b, 0, none⟩ ∧ ∀ i, i < n → ∀ j v, (el i)[j]? = some v → e.cs[i * sz + j]? = some v
theorem SlIn.mono {H H' : List Ent} {p : Option Addr} {n sz : Nat} {el : Nat → List Value} (h : SlIn H p n sz el) (hs : ∀ e ∈ H, e ∈ H') : SlIn H' p n sz el := by
  rcases h with h | ⟨e, he, h⟩
  · exact .inl h
  · exact .inr ⟨e, hs e he, h⟩
theorem SlIn.sl {w0 w : World} {H : List Ent} {p : Option Addr} {n sz : Nat} {el : Nat → List Value} (h : SlIn H p n sz el) (hw : Sat w0 H w) : Sl w p n sz el := by
  rcases h with h | ⟨e, he, rfl, h⟩
  · exact ⟨.inl h⟩
  · refine ⟨.inr ⟨e.b, 0, rfl, hw.lt he, fun i hi j v hv => ?_⟩⟩
    have h1 := h i hi j v hv
    rw [Addr.add_off]
    simp only [World.cell?, (hw.own e he).2]
    simpa [Nat.zero_add] using h1
theorem Sl.kept {w w' : World} {p : Option Addr} {n sz : Nat} {el : Nat → List Value} (h : Sl w p n sz el) (hb : Below w.heap.size w w') : Sl w' p n sz el := by
  rcases h.h with h | ⟨b, o, rfl, hlt, h⟩
  · exact ⟨.inl h⟩
  · exact ⟨.inr ⟨b, o, rfl, Nat.lt_of_lt_of_le hlt hb.size, fun i hi => (h i hi).kept hb hlt⟩⟩
theorem Sl.keptS {w0 w : World} {H : List Ent} {p : Option Addr} {n sz : Nat} {el : Nat → List Value} (h : Sl w0 p n sz el) (hw : Sat w0 H w) : Sl w p n sz el := h.kept hw.below

section
variable {P : Program} {ops : Array Oper} {Q : Exit → Act → World → Prop} {w0 : World} {H : List Ent} {rest : List Oper} {n : Nat} {F : Nat → Value} {d : Nat} {op : Op} {ty : TypeId} {pos : String} {af : Array Edge} {v : Value}
theorem wl_perm {H' : List Ent} (hp : H'.Perm H) (h : WL P ops Q w0 H' rest n F) : WL P ops Q w0 H rest n F := fun w hw => h w (hw.perm hp)
theorem wc_perm {c : Code} {H' : List Ent} (hp : H'.Perm H) (h : WC P Q w0 H' c n F) : WC P Q w0 H c n F := fun w hw => h w (hw.perm hp)
theorem nq_perm {e : Exit} {H' : List Ent} (hp : H'.Perm H) (h : NQ Q w0 H' e n F) : NQ Q w0 H e n F := fun w hw => h w (hw.perm hp)
theorem nq_sub {e : Exit} {H' : List Ent} (hs : H'.Sublist H) (h : NQ Q w0 H' e n F) : NQ Q w0 H e n F := fun w hw => h w (hw.sub hs)
/-- an operation by its run, with what it leaves -/
theorem lrun {X : Type} (vx : X → Value) (Hx : X → List Ent) (I : X → Prop)
    (hr : ∀ w, Sat w0 H w → ∃ x w', (execOp (ev n F) ⟨some d, op, ty, pos, af, none⟩).run P w = .ok (.value (vx x)) w' ∧ Sat w0 (Hx x) w' ∧ I x)
    (h : ∀ x, I x → WL P ops Q w0 (Hx x) rest n (upd F d (vx x))) : WL P ops Q w0 H (⟨some d, op, ty, pos, af, none⟩ :: rest) n F :=
  fun w hw => wpList_plain rfl fun K hK => by
    obtain ⟨x, w', h1, h2, h3⟩ := hr w hw
    unfold Oper.wp
    rw [fr_eval, h1]
    exact hK _ _ (by rw [fr_put]; exact h x h3 _ h2)
/-- a call that hands back memory -/
theorem lclm {f : FuncId} {fx : Operand} {xs : List Operand} {ats : Array TypeId} {args : List Value} {φ : Value → List Ent → Prop} (hb : HasBody P f) (hfx : ev n F fx = .func (.func f) #[] #[])
    (hx : xs.map (ev n F) = args) (hc : ∀ w, Sat w0 H w → Calls P f args.toArray w (RetM φ w))
    (h : ∀ v Hn, φ v Hn → WL P ops Q w0 (H ++ Hn) rest n (upd F d v)) :
    WL P ops Q w0 H (⟨some d, .call { callee := .value fx, args := xs.toArray, argTypes := ats }, ty, pos, af, none⟩ :: rest) n F := fun w hw => wpList_plain rfl fun K hK => by
  obtain ⟨fn, h1, h2, h3⟩ := hb.h
  obtain ⟨c, hcb⟩ := Option.isSome_iff_exists.1 h3
  have h2' : fn.name ≠ "runtime.NumGoroutine" := by simpa using h2
  have hr : (execOp (ev n F) ⟨some d, .call { callee := .value fx, args := xs.toArray, argTypes := ats }, ty, pos, af, none⟩).run P w = .ok (.enter f args.toArray) w := by
    simp [execOp, resolve, hfx, hx, Deferred.ofValue, invoke, callFunc, Sem.run, program, h1, h2', hcb]
  unfold Oper.wp
  rw [fr_eval, hr]
  refine (hc w hw).mono fun e w' ⟨v, Hn, h4, h5, h6⟩ => ?_
  subst h4
  exact hK _ _ (by rw [fr_put]; exact h v Hn h5 _ (hw.join h6))
end

/-- a struct or an array out of its parts -/
theorem bldk {P : Program} {C : World → Prop} {ρ : Operand → Value} {d : Option Tmp} {ty : TypeId} {pos : String} {af : Array Edge} {g : Option (Nat × Bool)} {t : TypeId} {parts : List (Nat × Operand)} {vals : List (Nat × Value)} {zs : List Value} (hp : parts.map (fun p => (p.1, ρ p.2)) = vals)
    (hr : ∀ w, (Instr.build t vals.toArray).run P w = .ok (.agg zs.toArray) w) : Qu P C ρ ⟨d, .build t parts.toArray, ty, pos, af, g⟩ (.agg zs.toArray) :=
  qu_of_run fun w _ => by
    subst hp
    have h := hr w
    have e : (parts.toArray.map fun x : Nat × Operand => (x.1, ρ x.2)) = (parts.map fun p => (p.1, ρ p.2)).toArray := by simp
    unfold execOp
    show (Sem.run P (do let v ← Instr.build t (parts.toArray.map fun x : Nat × Operand => (x.1, ρ x.2)); pure (Next.value v)) w) = _
    rw [e, Sem.run_bind, h]; rfl

/-- a slice out of its elements -/
theorem lbs {P : Program} {ops : Array Oper} {Q : Exit → Act → World → Prop} {w0 : World} {H : List Ent} {rest : List Oper} {n : Nat} {F : Nat → Value} {d : Nat} {ty : TypeId} {pos : String} {af : Array Edge}
    {t e : TypeId} {len : Nat} {parts : List (Nat × Operand)} {vals : List (Nat × Value)} {cs : List Value} (_ : P.underlying t = some (.slice e)) (hp : parts.map (fun p => (p.1, ev n F p.2)) = vals)
    (hr : ∀ w : World, (Instr.buildSlice t len vals.toArray).run P w = .ok (.slice (some ⟨w.heap.size, 0, none⟩) len len) (w.alloc (.cells cs.toArray e)))
    (h : ∀ b, WL P ops Q w0 (H ++ [⟨b, cs, e⟩]) rest n (upd F d (.slice (some ⟨b, 0, none⟩) len len))) : WL P ops Q w0 H (⟨some d, .buildSlice t len parts.toArray, ty, pos, af, none⟩ :: rest) n F := by
  refine lrun (X := Nat) (fun b => .slice (some ⟨b, 0, none⟩) len len) (fun b => H ++ [⟨b, cs, e⟩]) (fun _ => True) (fun w hw => ⟨w.heap.size, _, ?_, hw.alloc cs e, trivial⟩) (fun b _ => h b)
  have hr' := hr w
  subst hp
  have e1 : (parts.toArray.map fun x : Nat × Operand => (x.1, ev n F x.2)) = (parts.map fun p => (p.1, ev n F p.2)).toArray := by simp
  unfold execOp
  show (Sem.run P (do let v ← Instr.buildSlice t len (parts.toArray.map fun x : Nat × Operand => (x.1, ev n F x.2)); pure (Next.value v)) w) = _
  rw [e1, Sem.run_bind, hr']; rfl

theorem Mem.c0 {w : World} {b o : Nat} {v : Value} (h : Mem w ⟨b, o, none⟩ [v]) : w.cell? ⟨b, o, none⟩ = some v := by
  have := h 0 v rfl
  rwa [Addr.add_off] at this
theorem Sat.grown {w0 w w' : World} {A B : List Ent} {row : Option Nat} {g : Nat} {cs : List Value} {t : TypeId} (h : Sat w0 (A ++ B) w) (hg : w.grownBy w' row)
    (hrow : ∀ x ∈ A ++ B, some x.b ≠ row) (hrow0 : ∀ k, row = some k → w0.heap.size ≤ k) (hgg : row = some g ∨ g = w.heap.size) (hc : w'.heap[g]? = some (.cells cs.toArray t (0, 0))) :
    Sat w0 (A ++ (⟨g, cs, t⟩ :: B)) w' := by
  have hs := h.size
  have key : Sat w0 (⟨g, cs, t⟩ :: (A ++ B)) w' := by
    refine ⟨h.below.trans ⟨hg.os, hg.tape, hg.output, hg.size, fun k hk => hg.block k (by omega) (fun e => ?_)⟩, fun e he => ?_, List.pairwise_cons.2 ⟨fun y hy => ?_, h.apart⟩⟩
    · have := hrow0 k e.symm; omega
    · rcases List.mem_cons.1 he with rfl | he
      · refine ⟨?_, hc⟩
        rcases hgg with hgg | hgg
        · exact hrow0 _ hgg
        · show w0.heap.size ≤ g; omega
      · exact ⟨(h.own e he).1, (hg.block e.b (h.lt he) (hrow e he)).trans (h.own e he).2⟩
    · show g ≠ y.b
      rcases hgg with hgg | hgg
      · have := hrow y hy; rw [hgg] at this; exact fun e => this (by rw [e])
      · have := h.lt hy; omega
  exact key.perm List.perm_middle

/-- a slice's type: its element's type, cells and bytes -/
structure ElT (P : Program) (t e : TypeId) (size bytes : Nat) : Prop where
  h : ∃ i z, P.underlying t = some (.slice e) ∧ P.info? e = some i ∧ i.zero = some z ∧ i.size = size ∧ i.bytes = bytes ∧ z.cells.size = size ∧ 0 < size
/-- a slice of our own, in a block of its own, or nil: its elements' cells -/
def OwnL (e : TypeId) (size : Nat) (v : Value) (n : Nat) (xs : List Value) (oe : List Ent) : Prop :=
  xs.length = n * size ∧ ((v = .slice none 0 0 ∧ n = 0 ∧ oe = []) ∨
    ∃ g cap cur, v = .slice (some ⟨g, 0, none⟩) n cap ∧ oe = [⟨g, cur, e⟩] ∧ n ≤ cap ∧ cap ≤ maxLen ∧ cur.length = cap * size ∧ cur.take (n * size) = xs)
theorem OwnL.nil (e : TypeId) (size : Nat) : OwnL e size (.slice none 0 0) 0 [] [] := ⟨by simp, .inl ⟨rfl, rfl, rfl⟩⟩
theorem OwnL.form {e : TypeId} {size : Nat} {v : Value} {n : Nat} {xs : List Value} {oe : List Ent} (h : OwnL e size v n xs oe) : ∃ p c, v = .slice p n c := by
  rcases h.2 with ⟨rfl, rfl, _⟩ | ⟨g, cap, cur, rfl, _⟩
  · exact ⟨_, _, rfl⟩
  · exact ⟨_, _, rfl⟩
/-- what it holds, element by element -/
theorem OwnL.slIn {e : TypeId} {size : Nat} {p : Option Addr} {c n : Nat} {xs : List Value} {oe : List Ent} {el : Nat → List Value} (h : OwnL e size (.slice p n c) n xs oe)
    (hel : ∀ i, i < n → ∀ j v, (el i)[j]? = some v → xs[i * size + j]? = some v) : SlIn oe p n size el := by
  rcases h.2 with ⟨_, h0, _⟩ | ⟨g, cap, cur, hv, rfl, hn, _, hc, ht⟩
  · exact .inl h0
  · cases hv
    refine .inr ⟨_, List.mem_singleton.2 rfl, rfl, fun i hi j v hv => ?_⟩
    have h1 := hel i hi j v hv
    rw [← ht, List.getElem?_take] at h1
    split at h1
    · exact h1
    · cases h1
theorem lapp {P : Program} {ops : Array Oper} {Q : Exit → Act → World → Prop} {w0 : World} {H : List Ent} {rest : List Oper} {n : Nat} {F : Nat → Value} {d : Nat} {ty : TypeId} {pos : String} {af : Array Edge}
    {t e : TypeId} {size bytes : Nat} {s x : Operand} {v : Value} {k : Nat} {xs news : List Value} {ad : Addr} {m c : Nat} (A B oe : List Ent) (hT : ElT P t e size bytes) (hH : H = A ++ (oe ++ B))
    (hs : ev n F s = v) (hown : OwnL e size v k xs oe) (hx : ev n F x = .slice (some ad) m c) (hl : news.length = m * size) (hnews : ∀ w, Sat w0 H w → Mem w ad news) (h1 : ∀ u ∈ news, u.oneCell' = true)
    (hm : 0 < m) (h63 : k + m ≤ maxLen) (hby : (k + m) * bytes ≤ 140737488355328)
    (h : ∀ g cap oe', OwnL e size (.slice (some ⟨g, 0, none⟩) (k + m) cap) (k + m) (xs ++ news) oe' → WL P ops Q w0 (A ++ (oe' ++ B)) rest n (upd F d (.slice (some ⟨g, 0, none⟩) (k + m) cap))) :
    WL P ops Q w0 H (⟨some d, .call { callee := .builtin .append, args := #[s, x], argTypes := #[t, t] }, ty, pos, af, none⟩ :: rest) n F := fun w hw => wpList_plain rfl fun K hK => by
  obtain ⟨i, z, ht, hi, hz, hsize, hbytes, hzs, hpos⟩ := hT.h
  subst hH
  have hsz := hw.size
  have hO : w.ownsRow w0.heap.size e size v k xs := by
    refine ⟨hown.1, ?_⟩
    rcases hown.2 with ⟨h2, h3, _⟩ | ⟨g, cap, cur, h2, rfl, h3, h4, h5, h6⟩
    · exact .inl ⟨h2, h3⟩
    · have hm := hw.own ⟨g, cur, e⟩ (by simp)
      exact .inr ⟨g, cap, cur.toArray, h2, hm.1, hm.2, h3, h4, by simpa using h5, by simpa using h6⟩
  obtain ⟨g, cap, w', hr, h2, h3, h4, _⟩ := run_append_lies (P := P) w t ty w0.heap.size e i z size bytes ht hi hz hsize hbytes hzs hpos v k xs hO ad m c news hl (fun j u hj => hnews w hw j u hj) h1 hm h63 hby hsz _ rfl
  have hrun : (execOp (fr n F).eval ⟨some d, .call { callee := .builtin .append, args := #[s, x], argTypes := #[t, t] }, ty, pos, af, none⟩).run P w = .ok (.value (.slice (some ⟨g, 0, none⟩) (k + m) cap)) w' := by
    unfold execOp
    simp only [resolve, invoke, builtin, Sem.run_bind, Sem.run_pure, Result.andThen_ok, List.map_toArray, List.map_cons, List.map_nil, fr_eval, hs, hx, hr]
  unfold Oper.wp
  rw [hrun]
  refine hK _ _ ?_
  rw [fr_put]
  rcases h2.2 with ⟨h5, _⟩ | ⟨g', cap', cur, h5, h6, h7, h8, h9, h10, h11⟩
  · cases h5
  · cases h5
    refine h g cap [⟨g, cur.toList, e⟩] ⟨h2.1, .inr ⟨g, cap, cur.toList, rfl, rfl, h8, h9, by simpa using h10, h11⟩⟩ w' ?_
    have hAB : Sat w0 (A ++ B) w := hw.sub (List.Sublist.append_left (List.sublist_append_right _ _) _)
    have hrow : ∀ y ∈ A ++ B, some y.b ≠ v.ownBlock := by
      rcases hown.2 with ⟨rfl, _, _⟩ | ⟨b, cap2, cur2, rfl, rfl, _⟩
      · intro y _; simp [Value.ownBlock]
      · intro y hy hc
        have hp : Sat w0 (⟨b, cur2, e⟩ :: (A ++ B)) w := hw.perm (by simpa using List.perm_middle.symm)
        have := (List.pairwise_cons.1 hp.apart).1 y hy
        simp [Value.ownBlock] at hc
        exact this hc.symm
    have hrow0 : ∀ q, v.ownBlock = some q → w0.heap.size ≤ q := by
      rcases hown.2 with ⟨rfl, _, _⟩ | ⟨b, cap2, cur2, rfl, rfl, _⟩
      · intro q hq; simp [Value.ownBlock] at hq
      · intro q hq
        simp [Value.ownBlock] at hq
        subst hq
        exact (hw.own ⟨b, cur2, e⟩ (by simp)).1
    have := hAB.grown h3 hrow hrow0 h4 (cs := cur.toList) (t := e) (by simpa using h7)
    simpa using this
/-- one result -/
def rvS (tmps : Array Value) (r : ResultVar) : Sem Value :=
  match r with
  | .tmp t => pure (tmps.getD t undef)
  | .cell a t => do loadVar t (← asAddr (tmps.getD a undef))
def RV (P : Program) (w0 : World) (H : List Ent) (n : Nat) (F : Nat → Value) (r : ResultVar) (v : Value) : Prop := ∀ w, Sat w0 H w → (rvS (fr n F).tmps r).run P w = .ok v w
section
variable {P : Program} {w0 : World} {H : List Ent} {n : Nat} {F : Nat → Value} {fn : Func} {v v1 v2 : Value}
theorem rvt {t : Tmp} (hv : ev n F (.tmp t) = v) : RV P w0 H n F (.tmp t) v := fun w _ => by
  show (pure ((fr n F).tmps.getD t undef) : Sem Value).run P w = _
  rw [fr_getD, hv]; rfl
theorem rvc (i : Nat) {t : Tmp} {ty : TypeId} {e : Ent} {k : Nat} {vs : List Value} (ha : ∀ w, (isAgg ty).run P w = .ok true w)
    (hk : ∀ w, (Go.sizeOf ty).run P w = .ok k w) (hi : H[i]? = some e) (hx : ev n F (.tmp t) = .pointer (some ⟨e.b, 0, none⟩)) (hl : vs.length = k) (hv : e.cs = vs) : RV P w0 H n F (.cell t ty) (.agg vs.toArray) :=
  fun w hw => by
    have hm := hw.mem hi 0
    have hrn := run_loadCells_list (P := P) w ⟨e.b, 0, none⟩ vs (fun j v hj => hm j v (by rw [hv]; simpa using hj))
    rw [hl] at hrn
    show (do loadVar ty (← asAddr ((fr n F).tmps.getD t undef)) : Sem Value).run P w = _
    rw [fr_getD, hx]
    simp [asAddr, loadVar, ha, hk, hrn]
theorem results_rv : (results fn (fr n F).tmps) = (do
    let vs ← fn.results.mapM (rvS (fr n F).tmps)
    pure (if h : vs.size = 1 then vs[0] else .tuple vs)) := by
  unfold results
  congr 1
theorem rv2 {r1 r2 : ResultVar} (hr : fn.results = #[r1, r2]) (h1 : RV P w0 H n F r1 v1) (h2 : RV P w0 H n F r2 v2) : ∀ w, Sat w0 H w → (results fn (fr n F).tmps).run P w = .ok (.tuple #[v1, v2]) w := fun w hw => by
  have e1 := h1 w hw
  have e2 := h2 w hw
  rw [results_rv, hr]
  simp
  rw [e1]
  show (Result.andThen (Sem.run P (rvS (fr n F).tmps r2) w) fun a_1 w' => Result.ok (Value.tuple #[v1, a_1]) w') = _
  rw [e2]; rfl
theorem rv1 {r1 : ResultVar} (hr : fn.results = #[r1]) (h1 : RV P w0 H n F r1 v1) : ∀ w, Sat w0 H w → (results fn (fr n F).tmps).run P w = .ok v1 w := fun w hw => by
  have e1 := h1 w hw
  rw [results_rv, hr]
  simp
  rw [e1]
end
/-- an operation on two values by its run -/
theorem binc {P : Program} {C : World → Prop} {ρ : Operand → Value} {d : Option Tmp} {ty : TypeId} {pos : String} {af : Array Edge} {g : Option (Nat × Bool)} {op : BinOp} {x y : Operand} {t t' : TypeId} {u v r : Value} (hx : ρ x = u) (hy : ρ y = v)
    (hr : ∀ w, (do eqGuard op t x y u v; binOp op t u v).run P w = .ok r w) : Qu P C ρ ⟨d, .binOp op t x y t', ty, pos, af, g⟩ r :=
  qu_of_run fun w _ => by
    have h := hr w
    simp only [execOp, hx, hy]
    rw [Sem.run_bind, h]; rfl
/-- the end of a function that hands back memory -/
theorem finM {P : Program} {w0 : World} {H : List Ent} {n : Nat} {F : Nat → Value} {fn : Func} {φ : Value → List Ent → Prop} (v : Value) (Hn : List Ent) (hr : ∀ w, Sat w0 H w → (results fn (fr n F).tmps).run P w = .ok v w) (hs : ∃ l : List Ent, l.Perm Hn ∧ l.Sublist H) (hφ : φ v Hn) :
    NQ (bodyPost P fn (RetM φ w0)) w0 H .ret n F := fun w hw => by
  obtain ⟨l, hp, hl⟩ := hs
  exact ⟨rfl, v, hr w hw, v, Hn, rfl, hφ, (hw.sub hl).perm hp.symm⟩
end Jal
/- more words for memory: lists of elements as cells, append in its forms, nil, conversion -/
namespace Jal
open Go Go.RowKit
theorem flatM_len {α : Type} {f : α → List Value} {sz : Nat} (hf : ∀ a, (f a).length = sz) : ∀ (L : List α), (L.flatMap f).length = L.length * sz
  | [] => by simp
  | a :: L => by rw [List.flatMap_cons, List.length_append, hf, flatM_len hf L, List.length_cons, Nat.add_mul]; omega
theorem flatM_get {α : Type} {f : α → List Value} {sz : Nat} (hf : ∀ a, (f a).length = sz) : ∀ (L : List α) (j r : Nat) (a : α), L[j]? = some a → r < sz → (L.flatMap f)[j * sz + r]? = (f a)[r]?
  | [], _, _, _, h, _ => by cases h
  | b :: L, 0, r, a, h, hr => by
    cases h
    rw [List.flatMap_cons, List.getElem?_append_left (by rw [hf]; omega)]
    simp
  | b :: L, j + 1, r, a, h, hr => by
    rw [List.flatMap_cons, List.getElem?_append_right (by rw [hf, Nat.add_mul]; omega), hf]
    have : (j + 1) * sz + r - sz = j * sz + r := by rw [Nat.add_mul]; omega
    rw [this]
    exact flatM_get hf L j r a (by simpa using h) hr
/-- the elements of a row, read -/
theorem OwnL.slInL {α : Type} {f : α → List Value} {e : TypeId} {size : Nat} {p : Option Addr} {c n : Nat} {L : List α} {oe : List Ent} {el : Nat → List Value} (h : OwnL e size (.slice p n c) n (L.flatMap f) oe)
    (hf : ∀ a, (f a).length = size) (hel : ∀ i, i < n → ∃ a, L[i]? = some a ∧ el i = f a) : SlIn oe p n size el :=
  h.slIn fun i hi j v hv => by
    obtain ⟨a, h1, h2⟩ := hel i hi
    have hj : j < size := by rw [← hf a, ← h2]; exact (List.getElem?_eq_some_iff.1 hv).1
    rw [flatM_get hf L i j a h1 hj, ← h2, hv]
theorem Mem.at {w : World} {b o i : Nat} {cs : List Value} {v : Value} (h : Mem w ⟨b, o, none⟩ cs) (hv : cs[i]? = some v) : w.cell? ⟨b, o + i, none⟩ = some v := by
  have := h i v hv
  rwa [Addr.add_off] at this
/-- elements one behind the other -/
theorem mem_flat {w : World} {b o n sz : Nat} {el : Nat → List Value} (h0 : 0 < sz) (hl : ∀ i, (el i).length = sz) (hm : ∀ i, i < n → Mem w ⟨b, o + i * sz, none⟩ (el i)) : Mem w ⟨b, o, none⟩ ((List.range n).flatMap el) := by
  intro j v hv
  have hjl : j < n * sz := by
    have := (List.getElem?_eq_some_iff.1 hv).1
    rwa [flatM_len hl, List.length_range] at this
  have hd : j / sz < n := Nat.div_lt_of_lt_mul (by rw [Nat.mul_comm]; exact hjl)
  have hr : j % sz < sz := Nat.mod_lt _ h0
  have he : j / sz * sz + j % sz = j := by rw [Nat.mul_comm]; exact Nat.div_add_mod j sz
  have h1 := flatM_get hl (List.range n) (j / sz) (j % sz) (j / sz) (by rw [List.getElem?_range hd]) hr
  rw [he, hv] at h1
  have h2 := hm (j / sz) hd (j % sz) v h1.symm
  rw [Addr.add_off] at h2 ⊢
  rw [show o + j = o + j / sz * sz + j % sz from by omega]
  exact h2
section
variable {P : Program} {ops : Array Oper} {Q : Exit → Act → World → Prop} {w0 : World} {H : List Ent} {rest : List Oper} {n : Nat} {F : Nat → Value} {d : Nat} {op : Op} {ty : TypeId} {pos : String} {af : Array Edge} {v : Value}
theorem wl_tail (k : Nat) {X : List Ent} (h : WL P ops Q w0 (H.take k ++ (H.drop k ++ X)) rest n F) : WL P ops Q w0 (H ++ X) rest n F := by
  rwa [← List.append_assoc, List.take_append_drop] at h
/-- append to a row that stands ahead of two parts -/
theorem lapp2 {t e : TypeId} {size bytes : Nat} {s x : Operand} {v : Value} {k : Nat} {xs news : List Value} {ad : Addr} {m c : Nat} (A B1 B2 oe : List Ent) (hT : ElT P t e size bytes) (hH : H = A ++ ((oe ++ B1) ++ B2))
    (hs : ev n F s = v) (hown : OwnL e size v k xs oe) (hx : ev n F x = .slice (some ad) m c) (hl : news.length = m * size) (hnews : ∀ w, Sat w0 H w → Mem w ad news) (h1 : ∀ u ∈ news, u.oneCell' = true)
    (hm : 0 < m) (h63 : k + m ≤ maxLen) (hby : (k + m) * bytes ≤ 140737488355328)
    (h : ∀ g cap oe', OwnL e size (.slice (some ⟨g, 0, none⟩) (k + m) cap) (k + m) (xs ++ news) oe' → WL P ops Q w0 (A ++ (oe' ++ (B1 ++ B2))) rest n (upd F d (.slice (some ⟨g, 0, none⟩) (k + m) cap))) :
    WL P ops Q w0 H (⟨some d, .call { callee := .builtin .append, args := #[s, x], argTypes := #[t, t] }, ty, pos, af, none⟩ :: rest) n F :=
  lapp A (B1 ++ B2) oe hT (by rw [hH, List.append_assoc oe]) hs hown hx hl hnews h1 hm h63 hby h
end
def pb (p : Option Addr) : Nat := (p.getD ⟨0, 0, none⟩).block
def po (p : Option Addr) : Nat := (p.getD ⟨0, 0, none⟩).off
theorem Sl.hp {w : World} {p : Option Addr} {n sz i : Nat} {el : Nat → List Value} (h : Sl w p n sz el) (hi : i < n) : p = some ⟨pb p, po p, none⟩ := by
  obtain ⟨b, o, rfl, _⟩ := h.at hi; rfl
theorem Sl.memP {w w' : World} {p : Option Addr} {n sz i : Nat} {el : Nat → List Value} (h : Sl w p n sz el) (hi : i < n) (hb : Below w.heap.size w w') : Mem w' ⟨pb p, po p + i * sz, none⟩ (el i) := by
  obtain ⟨b, o, rfl, hlt, hm⟩ := h.at hi
  exact (hm i hi).kept hb hlt
theorem wl_nil {P : Program} {ops : Array Oper} {Q : Exit → Act → World → Prop} {w0 : World} {H : List Ent} {rest : List Oper} {n : Nat} {F : Nat → Value} (h : WL P ops Q w0 H rest n F) : WL P ops Q w0 (H ++ []) rest n F := by
  rwa [List.append_nil]
/-- a slice that is made -/
theorem lmk {P : Program} {ops : Array Oper} {Q : Exit → Act → World → Prop} {w0 : World} {H : List Ent} {rest : List Oper} {n : Nat} {F : Nat → Value} {d : Nat} {ty : TypeId} {pos : String} {af : Array Edge}
    {t e : TypeId} {l c : Operand} {vl vc : Value} {len cap : Nat} {cs : List Value} (hl : ev n F l = vl) (hc : ev n F c = vc)
    (hr : ∀ w : World, (Instr.makeSlice t vl vc).run P w = .ok (.slice (some ⟨w.heap.size, 0, none⟩) len cap) (w.alloc (.cells cs.toArray e)))
    (h : ∀ b, WL P ops Q w0 (H ++ [⟨b, cs, e⟩]) rest n (upd F d (.slice (some ⟨b, 0, none⟩) len cap))) : WL P ops Q w0 H (⟨some d, .makeSlice t l c, ty, pos, af, none⟩ :: rest) n F := by
  refine lrun (X := Nat) (fun b => .slice (some ⟨b, 0, none⟩) len cap) (fun b => H ++ [⟨b, cs, e⟩]) (fun _ => True) (fun w hw => ⟨w.heap.size, _, ?_, hw.alloc cs e, trivial⟩) (fun b _ => h b)
  simp [execOp, hl, hc, hr w]
section
variable {P : Program} {C : World → Prop} {ρ : Operand → Value} {d : Option Tmp} {ty : TypeId} {pos : String} {af : Array Edge} {g : Option (Nat × Bool)}
/-- append of nothing -/
theorem lapp0 {t e : TypeId} {size bytes : Nat} {s x : Operand} {p q : Option Addr} {k cp c : Nat} (hT : ElT P t e size bytes) (hs : ρ s = .slice p k cp) (hk : k ≤ cp) (hx : ρ x = .slice q 0 c) :
    Qu P C ρ ⟨d, .call { callee := .builtin .append, args := #[s, x], argTypes := #[t, t] }, ty, pos, af, g⟩ (.slice p k cp) :=
  qu_of_run fun w _ => by
    obtain ⟨i, z, ht, hi, hz, hsize, hbytes, hzs, hpos⟩ := hT.h
    unfold execOp
    simp only [resolve, invoke, builtin, Sem.run_bind, Sem.run_pure, Result.andThen_ok, List.map_toArray, List.map_cons, List.map_nil, hs, hx]
    have hf : ∀ w, (Builtin.firstCells size 0 (.slice q 0 c)).run P w = .ok #[] w := fun w => by
      cases q with
      | none => rfl
      | some a => simp [Builtin.firstCells, loadCells, loadCellsFrom]
    have hsz : ∀ w, (Go.sizeOf e).run P w = .ok size w := fun w => by simp [Go.sizeOf, typeInfo, hi, hsize]
    cases p with
    | none => simp [Builtin.append_, run_underlying ht, hsz, Builtin.lenOf, hk, hf]
    | some a => simp [Builtin.append_, run_underlying ht, hsz, Builtin.lenOf, hk, hf, storeCells]
/-- is a slice nil? -/
theorem eqnil {t t' : TypeId} {sz : Nat} {x y : Operand} {p : Option Addr} {k c : Nat} (ht : SliT P t sz) (hx : ρ x = .slice p k c) (hy : ρ y = .slice none 0 0) : Qu P C ρ ⟨d, .binOp .eql t x y t', ty, pos, af, g⟩ (.bool p.isNone) :=
  qu_of_run fun w _ => by
    obtain ⟨e, hu, _⟩ := ht.h
    have hI : ∀ n, (Op.equalIn (n + 1) t (.slice p k c) (.slice none 0 0)).run P w = .ok p.isNone w := fun n => by
      cases p <;> simp [Op.equalIn, run_underlying hu]
    have h : (Op.equal t (.slice p k c) (.slice none 0 0)).run P w = .ok p.isNone w := hI 9999
    simp only [execOp, hx, hy]
    show (Sem.run P (do (pure () : Sem Unit); let v ← (do pure (Value.bool (← Op.equal t (.slice p k c) (.slice none 0 0)))); pure (Next.value v)) w) = _
    simp [h]
/-- a number of another kind -/
theorem cvi {s t : TypeId} {x : Operand} {k k' : IntKind} {a : Int} (hs : ∃ D, P.underlying s = some D) (ht : P.underlying t = some (.int k')) (hx : ρ x = .int k a) : Qu P C ρ ⟨d, .convert s t x, ty, pos, af, g⟩ (.int k' (k'.wrap a)) :=
  qu_of_run fun w _ => by
    obtain ⟨D, hD⟩ := hs
    simp [execOp, hx, convert, run_underlying hD, run_underlying ht, Conv.intToInt]
theorem cvn {s t : TypeId} {x : Operand} {k k' : IntKind} {a : Int} (hs : ∃ D, P.underlying s = some D) (ht : P.underlying t = some (.int k')) (hx : ρ x = .int k a) (hr : k'.wrap a = a) : Qu P C ρ ⟨d, .convert s t x, ty, pos, af, g⟩ (.int k' a) := by
  have := cvi (P := P) (C := C) (d := d) (ty := ty) (pos := pos) (af := af) (g := g) hs ht hx
  rwa [hr] at this
/-- a rest -/
theorem remn {t t' : TypeId} {x y : Operand} {k : IntKind} {a b r : Int} (hx : ρ x = .int k a) (hy : ρ y = .int k b) (hb : b ≠ 0) (hr : Int.tmod a b = r) : Qu P C ρ ⟨d, .binOp .rem t x y t', ty, pos, af, g⟩ (.int k r) :=
  qu_of_run fun w _ => by subst hr; simp [execOp, hx, hy, eqGuard, binOp, Op.intDiv, hb]
end
end Jal
/- more forms of append; a slice cut -/
namespace Jal
open Go Go.RowKit
section
variable {P : Program} {ops : Array Oper} {Q : Exit → Act → World → Prop} {w0 : World} {H : List Ent} {rest : List Oper} {n : Nat} {F : Nat → Value} {d : Nat} {op : Op} {ty : TypeId} {pos : String} {af : Array Edge} {v : Value}
/-- append to a row that stands behind another one -/
theorem lapp3 {t e : TypeId} {size bytes : Nat} {s x : Operand} {v : Value} {k : Nat} {xs news : List Value} {ad : Addr} {m c : Nat} (A1 A2 B oe : List Ent) (hT : ElT P t e size bytes) (hH : H = A1 ++ (A2 ++ (oe ++ B)))
    (hs : ev n F s = v) (hown : OwnL e size v k xs oe) (hx : ev n F x = .slice (some ad) m c) (hl : news.length = m * size) (hnews : ∀ w, Sat w0 H w → Mem w ad news) (h1 : ∀ u ∈ news, u.oneCell' = true)
    (hm : 0 < m) (h63 : k + m ≤ maxLen) (hby : (k + m) * bytes ≤ 140737488355328)
    (h : ∀ g cap oe', OwnL e size (.slice (some ⟨g, 0, none⟩) (k + m) cap) (k + m) (xs ++ news) oe' → WL P ops Q w0 (A1 ++ (A2 ++ (oe' ++ B))) rest n (upd F d (.slice (some ⟨g, 0, none⟩) (k + m) cap))) :
    WL P ops Q w0 H (⟨some d, .call { callee := .builtin .append, args := #[s, x], argTypes := #[t, t] }, ty, pos, af, none⟩ :: rest) n F :=
  lapp (A1 ++ A2) B oe hT (by rw [hH, List.append_assoc]) hs hown hx hl hnews h1 hm h63 hby (fun g cap oe' ho => by rw [List.append_assoc]; exact h g cap oe' ho)
end
section
variable {P : Program} {C : World → Prop} {ρ : Operand → Value} {d : Option Tmp} {ty : TypeId} {pos : String} {af : Array Edge} {g : Option (Nat × Bool)}
theorem min2n {x y : Operand} {k : IntKind} {a b : Nat} {ats : Array TypeId} (hx : ρ x = .int k (a : Int)) (hy : ρ y = .int k (b : Int)) :
    Qu P C ρ ⟨d, .call { callee := .builtin .min, args := #[x, y], argTypes := ats }, ty, pos, af, g⟩ (.int k ((min a b : Nat) : Int)) := by
  have := min2 (P := P) (C := C) (d := d) (ty := ty) (pos := pos) (af := af) (g := g) (ats := ats) hx hy
  rwa [show min (a : Int) (b : Int) = ((min a b : Nat) : Int) from by omega] at this
theorem OwnL_cap {e : TypeId} {size : Nat} {p : Option Addr} {n c : Nat} {xs : List Value} {oe : List Ent} (h : OwnL e size (.slice p n c) n xs oe) : n ≤ c ∧ (p = none ∨ ∃ b o, p = some ⟨b, o, none⟩) := by
  rcases h.2 with ⟨h1, h2, _⟩ | ⟨g, cap, cur, h1, _, h3, _⟩
  · cases h1; exact ⟨by omega, .inl rfl⟩
  · cases h1; exact ⟨h3, .inr ⟨_, _, rfl⟩⟩
theorem SlIn.le {H : List Ent} {p : Option Addr} {n m sz : Nat} {el : Nat → List Value} (h : SlIn H p n sz el) (hm : m ≤ n) : SlIn H p m sz el := by
  rcases h with h | ⟨e, he, hp, h⟩
  · exact .inl (by omega)
  · exact .inr ⟨e, he, hp, fun i hi => h i (by omega)⟩
/-- a slice cut at an upper bound -/
theorem slhi {t e : TypeId} {sz : Nat} {x y : Operand} {p : Option Addr} {n c m : Nat} {k : IntKind} (hu : P.underlying t = some (.slice e)) (hs : ∀ w, (Go.sizeOf e).run P w = .ok sz w) (hx : ρ x = .slice p n c) (hy : ρ y = .int k (m : Int)) (hm : m ≤ c)
    (hp : p = none ∨ ∃ b o, p = some ⟨b, o, none⟩) : Qu P C ρ ⟨d, .slice t x none (some y) none, ty, pos, af, g⟩ (.slice p m c) :=
  qu_of_run fun w _ => by
    have hb : (Instr.sliceBound (.int k (m : Int)) c .sliceAcap).run P w = .ok m w := by
      have : (0 : Int) ≤ m ∧ (m : Int) ≤ c := by omega
      simp [Instr.sliceBound, asIntOf, hm]
    have hadd : p.map (fun a => a.add 0) = p := by
      rcases hp with rfl | ⟨b, o, rfl⟩
      · rfl
      · simp [Addr.add]
    by_cases hc : c = 0
    · subst hc
      simp [execOp, hx, hy, Instr.sliceAt, Instr.slice, Instr.sliceBounds, run_underlying hu, hs, hb]
    · simp [execOp, hx, hy, Instr.sliceAt, Instr.slice, Instr.sliceBounds, run_underlying hu, hs, hb, hc, hadd]
end
end Jal
/- blocks of the caller; closures; clear; a row laid out under a guard; append of some or none -/
/- functions that write into a block of their caller's; closures; clear -/
namespace Jal
open Go Go.RowKit
/-- a function walked from a world that is told of already -/
theorem fn_callsH {P : Program} {n : Nat} {f : FuncId} {fn : Func} {c : Code} {args : Array Value} {w0 w : World} {H : List Ent} {R : Ending → World → Prop} (hs : Sat w0 H w) (hf : P.funcs[f]? = some fn) (hb : fn.body = some c) (hn : fn.ntmps = n)
    (ha : args.size ≤ n) (h : WC P (bodyPost P fn R) w0 H c n (argF args)) : Calls P f args w R := by
  refine calls_of_wp hf hb ?_
  have he : ({ tmps := args ++ Array.replicate (fn.ntmps - args.size) undef, defers := [] } : Act) = fr n (argF args) := by
    unfold fr
    congr 1
    apply Array.ext_getElem?
    intro t
    have h2 := fr_get n (argF args) t
    rw [show ((List.range n).map (argF args)).toArray[t]? = (fr n (argF args)).tmps[t]? from rfl, h2]
    simp only [Array.getElem?_append, Array.getElem?_replicate, hn, argF]
    by_cases h1 : t < args.size
    · rw [if_pos h1, if_pos (by omega)]; simp [h1]
    · rw [if_neg h1]
      by_cases h3 : t < n
      · rw [if_pos (by omega), if_pos h3]; simp [h1]
      · rw [if_neg (by omega), if_neg h3]
  rw [he]
  exact h w hs
def RetS (w0 : World) (φ : Value → List Ent → Prop) : Ending → World → Prop := fun e w' => ∃ v H, e = .returned v ∧ φ v H ∧ Sat w0 H w'
theorem finS {P : Program} {w0 : World} {H : List Ent} {n : Nat} {F : Nat → Value} {fn : Func} {φ : Value → List Ent → Prop} (v : Value) (Hn : List Ent) (hr : ∀ w, Sat w0 H w → (results fn (fr n F).tmps).run P w = .ok v w) (hs : ∃ l : List Ent, l.Perm Hn ∧ l.Sublist H) (hφ : φ v Hn) :
    NQ (bodyPost P fn (RetS w0 φ)) w0 H .ret n F := fun w hw => by
  obtain ⟨l, hp, hl⟩ := hs
  exact ⟨rfl, v, hr w hw, v, Hn, rfl, hφ, (hw.sub hl).perm hp.symm⟩
section
variable {P : Program} {ops : Array Oper} {Q : Exit → Act → World → Prop} {w0 : World} {H : List Ent} {rest : List Oper} {n : Nat} {F : Nat → Value} {d : Nat} {op : Op} {ty : TypeId} {pos : String} {af : Array Edge} {v : Value}
theorem lcls (Hc : List Ent) {f : FuncId} {fx : Operand} {xs : List Operand} {ats : Array TypeId} {args : List Value} {φ : Value → List Ent → Prop} (hb : HasBody P f) (hfx : ev n F fx = .func (.func f) #[] #[])
    (hx : xs.map (ev n F) = args) (hc : ∀ w, Sat w0 Hc w → Calls P f args.toArray w (RetS w0 φ)) (hs : ∃ l : List Ent, l.Perm Hc ∧ l.Sublist H)
    (h : ∀ v Hn, φ v Hn → WL P ops Q w0 Hn rest n (upd F d v)) :
    WL P ops Q w0 H (⟨some d, .call { callee := .value fx, args := xs.toArray, argTypes := ats }, ty, pos, af, none⟩ :: rest) n F := fun w hw => wpList_plain rfl fun K hK => by
  obtain ⟨fn, h1, h2, h3⟩ := hb.h
  obtain ⟨c, hcb⟩ := Option.isSome_iff_exists.1 h3
  obtain ⟨l, hp, hl⟩ := hs
  have h2' : fn.name ≠ "runtime.NumGoroutine" := by simpa using h2
  have hr : (execOp (ev n F) ⟨some d, .call { callee := .value fx, args := xs.toArray, argTypes := ats }, ty, pos, af, none⟩).run P w = .ok (.enter f args.toArray) w := by
    simp [execOp, resolve, hfx, hx, Deferred.ofValue, invoke, callFunc, Sem.run, program, h1, h2', hcb]
  unfold Oper.wp
  rw [fr_eval, hr]
  refine (hc w ((hw.sub hl).perm hp.symm)).mono fun e w' ⟨v, Hn, h4, h5, h6⟩ => ?_
  subst h4
  exact hK _ _ (by rw [fr_put]; exact h v Hn h5 _ h6)
/-- clear: the rest of a row of our own -/
theorem lclear (i : Nat) {t e : TypeId} {size bytes : Nat} {x : Operand} {b : Nat} {cur zs cs' : List Value} {o m c : Nat} (hT : ElT P t e size bytes) (hi : H[i]? = some ⟨b, cur, e⟩) (hx : ev n F x = .slice (some ⟨b, o, none⟩) m c) (hm : 0 < m)
    (hz : ∀ z : Value, (∃ i, P.info? e = some i ∧ i.zero = some z) → (Builtin.zeroCells z.cells m).toList = zs) (hl : zs.length = m * size) (h1 : ∀ v ∈ zs, v.oneCell' = true) (hol : o + zs.length ≤ cur.length)
    (hcs : cur.take o ++ zs ++ cur.drop (o + zs.length) = cs') (h : WL P ops Q w0 (H.set i ⟨b, cs', e⟩) rest n F) :
    WL P ops Q w0 H (⟨none, .call { callee := .builtin .clear, args := #[x], argTypes := #[t] }, ty, pos, af, none⟩ :: rest) n F := fun w hw => wpList_plain rfl fun K hK => by
  obtain ⟨inf, z, ht, hin, hzz, hsize, hbytes, hzs, hpos⟩ := hT.h
  have hs := hw.set hi cs'
  have hb := (hw.own _ (List.mem_of_getElem? hi)).2
  have hst := run_storeCells_at P b o e zs 0 cur.toArray w hb (by simpa using hol) h1
  have hz' := hz z ⟨inf, hin, hzz⟩
  have hr : (execOp (ev n F) ⟨none, .call { callee := .builtin .clear, args := #[x], argTypes := #[t] }, ty, pos, af, none⟩).run P w = .ok (.value (.tuple #[])) (w.setRow b cs'.toArray) := by
    simp only [Nat.add_zero] at hst
    unfold execOp
    simp only [resolve, invoke, builtin, Sem.run_bind, Sem.run_pure, Result.andThen_ok, List.map_toArray, List.map_cons, List.map_nil, hx]
    have hzv : (zeroValue e).run P w = .ok z w := by simp [zeroValue, typeInfo, hin, hzz]
    cases m with
    | zero => omega
    | succ m =>
      simp [Builtin.clear_, run_underlying ht, hzv, hz', hst, ← hcs]
  unfold Oper.wp
  rw [fr_eval, hr]
  exact hK _ _ (by rw [fr_put_none]; exact h _ hs)
end
section
variable {P : Program} {C : World → Prop} {ρ : Operand → Value} {d : Option Tmp} {ty : TypeId} {pos : String} {af : Array Edge} {g : Option (Nat × Bool)}
/-- a call of a closure -/
theorem clc {w0 : World} {H : List Ent} {f : FuncId} {fx : Operand} {xs : List Operand} {ats : Array TypeId} {args lb : List Value} {v : Value} (hb : HasBody P f) (hfx : ρ fx = .func (.func f) #[] lb.toArray)
    (hx : xs.map ρ = args) (hc : ∀ w, Sat w0 H w → Calls P f (args ++ lb).toArray w (Ret v w)) :
    Qu P (Sat w0 H) ρ ⟨d, .call { callee := .value fx, args := xs.toArray, argTypes := ats }, ty, pos, af, g⟩ v := fun w hw => by
  obtain ⟨fn, h1, h2, h3⟩ := hb.h
  obtain ⟨c, hcb⟩ := Option.isSome_iff_exists.1 h3
  have h2' : fn.name ≠ "runtime.NumGoroutine" := by simpa using h2
  have hr : (execOp ρ ⟨d, .call { callee := .value fx, args := xs.toArray, argTypes := ats }, ty, pos, af, g⟩).run P w = .ok (.enter f (args ++ lb).toArray) w := by
    simp [execOp, resolve, hfx, hx, Deferred.ofValue, invoke, callFunc, Sem.run, program, h1, h2', hcb]
  rw [hr]
  exact ⟨rfl, (hc w hw).mono fun e w' h => ⟨h.1, hw.step h.2⟩⟩
theorem mkf1 {f : Fn} {x : Operand} {v : Value} (hx : ρ x = v) : Qu P C ρ ⟨d, .makeFunc f #[] #[x], ty, pos, af, g⟩ (.func f #[] [v].toArray) :=
  qu_of_run fun w _ => by simp [execOp, Instr.makeFunc, hx]
/-- a slice cut at a lower bound -/
theorem sllo {t e : TypeId} {sz : Nat} {x y : Operand} {b o n c m : Nat} {k : IntKind} (hu : P.underlying t = some (.slice e)) (hs : ∀ w, (Go.sizeOf e).run P w = .ok sz w) (hx : ρ x = .slice (some ⟨b, o, none⟩) n c) (hy : ρ y = .int k (m : Int)) (hm : m ≤ n) (hc : m < c) :
    Qu P C ρ ⟨d, .slice t x (some y) none none, ty, pos, af, g⟩ (.slice (some ⟨b, o + m * sz, none⟩) (n - m) (c - m)) :=
  qu_of_run fun w _ => by
    have hb : (Instr.sliceBound (.int k (m : Int)) n .sliceB).run P w = .ok m w := by
      have : (0 : Int) ≤ m ∧ (m : Int) ≤ n := by omega
      simp [Instr.sliceBound, asIntOf, hm]
    have hcm : ¬ c = m := by omega
    simp [execOp, hx, hy, Instr.sliceAt, Instr.slice, Instr.sliceBounds, run_underlying hu, hs, hb, hcm, Addr.add_off]
end
end Jal
/- a row laid out under a guard -/
namespace Jal
open Go Go.RowKit
section
variable {P : Program} {ops : Array Oper} {Q : Exit → Act → World → Prop} {w0 : World} {H : List Ent} {rest : List Oper} {n : Nat} {F : Nat → Value} {d : Nat} {ty : TypeId} {pos : String} {af : Array Edge}
theorem lbsg {j dj : Nat} {want g : Bool} {t e : TypeId} {len : Nat} {parts : List (Nat × Operand)} {vals : List (Nat × Value)} {cs : List Value} (hj : (ops[j]?).bind (·.dst) = some dj) (hg : GW (ev n F (.tmp dj)) want g)
    (hp : g = true → parts.map (fun p => (p.1, ev n F p.2)) = vals)
    (hr : ∀ w : World, (Instr.buildSlice t len vals.toArray).run P w = .ok (.slice (some ⟨w.heap.size, 0, none⟩) len len) (w.alloc (.cells cs.toArray e)))
    (h : ∀ b E, (g = true → E = [⟨b, cs, e⟩]) → WL P ops Q w0 (H ++ E) rest n (upd F d (gv g (.slice (some ⟨b, 0, none⟩) len len)))) : WL P ops Q w0 H (⟨some d, .buildSlice t len parts.toArray, ty, pos, af, some (j, want)⟩ :: rest) n F :=
  fun w hw => wpList_step fun K hK => by
  rw [wanted_fr rfl hj hg]
  cases g with
  | true =>
    rw [if_pos rfl]
    have hr' := hr w
    have hp' := hp rfl
    subst hp'
    have e1 : (parts.toArray.map fun x : Nat × Operand => (x.1, ev n F x.2)) = (parts.map fun p => (p.1, ev n F p.2)).toArray := by simp
    have hx : (execOp (ev n F) ⟨some d, .buildSlice t len parts.toArray, ty, pos, af, some (j, want)⟩).run P w = .ok (.value (.slice (some ⟨w.heap.size, 0, none⟩) len len)) (w.alloc (.cells cs.toArray e)) := by
      unfold execOp
      show (Sem.run P (do let v ← Instr.buildSlice t len (parts.toArray.map fun x : Nat × Operand => (x.1, ev n F x.2)); pure (Next.value v)) w) = _
      rw [e1, Sem.run_bind, hr']; rfl
    unfold Oper.wp
    rw [fr_eval, hx]
    refine hK _ _ ?_
    rw [fr_put]
    have h1 := h w.heap.size [⟨w.heap.size, cs, e⟩] (fun _ => rfl)
    rw [gvt rfl] at h1
    exact h1 _ (hw.alloc cs e)
  | false =>
    rw [if_neg (by simp)]
    have h1 := h 0 [] (fun e => by cases e)
    rw [gv_false, List.append_nil] at h1
    exact hK _ _ (by rw [fr_put]; exact h1 w hw)
/-- append of some, or of none -/
theorem lappx {t e : TypeId} {size bytes : Nat} {s x : Operand} {k cp g0 : Nat} {xs news : List Value} {p : Option Addr} {m c : Nat} (A B oe : List Ent) (hT : ElT P t e size bytes) (hH : H = A ++ (oe ++ B))
    (hs : ev n F s = .slice (some ⟨g0, 0, none⟩) k cp) (hown : OwnL e size (.slice (some ⟨g0, 0, none⟩) k cp) k xs oe) (hx : ev n F x = .slice p m c) (hl : news.length = m * size) (hnews : 0 < m → ∃ ad, p = some ad ∧ ∀ w, Sat w0 H w → Mem w ad news) (h1 : ∀ u ∈ news, u.oneCell' = true)
    (h63 : k + m ≤ maxLen) (hby : (k + m) * bytes ≤ 140737488355328)
    (h : ∀ g cap oe', OwnL e size (.slice (some ⟨g, 0, none⟩) (k + m) cap) (k + m) (xs ++ news) oe' → WL P ops Q w0 (A ++ (oe' ++ B)) rest n (upd F d (.slice (some ⟨g, 0, none⟩) (k + m) cap))) :
    WL P ops Q w0 H (⟨some d, .call { callee := .builtin .append, args := #[s, x], argTypes := #[t, t] }, ty, pos, af, none⟩ :: rest) n F := by
  rcases Nat.eq_zero_or_pos m with hm | hm
  · subst hm
    obtain rfl : news = [] := List.eq_nil_of_length_eq_zero (by omega)
    have h2 := h g0 cp oe (by simpa using hown)
    rw [← hH] at h2
    exact l1 (lapp0 hT hs (OwnL_cap hown).1 hx) h2
  · obtain ⟨ad, rfl, hmem⟩ := hnews hm
    exact lapp A B oe hT hH hs hown hx hl hmem h1 hm h63 hby h
theorem OwnL.blk {e : TypeId} {size g k cap : Nat} {xs : List Value} {oe : List Ent} (h : OwnL e size (.slice (some ⟨g, 0, none⟩) k cap) k xs oe) : ∃ cur, oe = [⟨g, cur, e⟩] := by
  rcases h.2 with ⟨h1, _⟩ | ⟨g', cap', cur, h1, h2, _⟩
  · cases h1
  · cases h1; exact ⟨cur, h2⟩
end
end Jal
/- a call under a guard that hands back memory -/
namespace Jal
open Go Go.RowKit
section
variable {P : Program} {ops : Array Oper} {Q : Exit → Act → World → Prop} {w0 : World} {H : List Ent} {rest : List Oper} {n : Nat} {F : Nat → Value} {d : Nat} {ty : TypeId} {pos : String} {af : Array Edge}
theorem lclmg {j dj : Nat} {want g : Bool} {f : FuncId} {fx : Operand} {xs : List Operand} {ats : Array TypeId} {args : List Value} {φ : Value → List Ent → Prop} (hj : (ops[j]?).bind (·.dst) = some dj) (hg : GW (ev n F (.tmp dj)) want g)
    (hb : HasBody P f) (hfx : ev n F fx = .func (.func f) #[] #[]) (hx : g = true → xs.map (ev n F) = args) (hc : g = true → ∀ w, Sat w0 H w → Calls P f args.toArray w (RetM φ w))
    (h : ∀ v Hn, (g = true → φ v Hn) → WL P ops Q w0 (H ++ Hn) rest n (upd F d (gv g v))) :
    WL P ops Q w0 H (⟨some d, .call { callee := .value fx, args := xs.toArray, argTypes := ats }, ty, pos, af, some (j, want)⟩ :: rest) n F :=
  fun w hw => wpList_step fun K hK => by
  rw [wanted_fr rfl hj hg]
  cases g with
  | true =>
    rw [if_pos rfl]
    obtain ⟨fn, h1, h2, h3⟩ := hb.h
    obtain ⟨c, hcb⟩ := Option.isSome_iff_exists.1 h3
    have h2' : fn.name ≠ "runtime.NumGoroutine" := by simpa using h2
    have hr : (execOp (ev n F) ⟨some d, .call { callee := .value fx, args := xs.toArray, argTypes := ats }, ty, pos, af, some (j, want)⟩).run P w = .ok (.enter f args.toArray) w := by
      simp [execOp, resolve, hfx, hx rfl, Deferred.ofValue, invoke, callFunc, Sem.run, program, h1, h2', hcb]
    unfold Oper.wp
    rw [fr_eval, hr]
    refine (hc rfl w hw).mono fun e w' ⟨v, Hn, h4, h5, h6⟩ => ?_
    subst h4
    have h7 := h v Hn (fun _ => h5)
    rw [gvt rfl] at h7
    exact hK _ _ (by rw [fr_put]; exact h7 _ (hw.join h6))
  | false =>
    rw [if_neg (by simp)]
    have h1 := h undef [] (fun e => by cases e)
    rw [gv_false, List.append_nil] at h1
    exact hK _ _ (by rw [fr_put]; exact h1 w hw)
end
end Jal
