/- controls as plain data: of slots and hands their lengths alone count -/
import Derived.Test.YtkdbjhlkahkobaaWr
import Derived.Test.YtkdbjhlkahkobaaMem2
import Derived.Test.YtkdbjhlkahkobaaHeld
namespace Go.Proofs.Ytkdbjhlkahkobaa
open Jal Go.RowKit
set_option maxRecDepth 100000
structure Sv where
  p : Option Addr
  n : Nat
  c : Nat
def encSv (s : Sv) : Value := .slice s.p s.n s.c
structure Ct where
  op : Int
  member : Int
  cut : Int
  slots : Nat → Sv
  hand : Sv
def encC (c : Ct) : List Value := [.int .i64 c.op, .int .i64 c.member, .int .u64 c.cut] ++ ((List.range 6).map (fun i => encSv (c.slots i)) ++ [encSv c.hand])
theorem encC_slots (c : Ct) : ((encC c).drop 3).take 6 = (List.range 6).map (fun i => encSv (c.slots i)) := rfl
theorem encC_slot (c : Ct) (i : Nat) (h : i < 6) : (encC c)[0 + 3 + i * 1]? = some (.slice (c.slots i).p (c.slots i).n (c.slots i).c) := by
  rcases six h with rfl | rfl | rfl | rfl | rfl | rfl <;> rfl
def us (f : Nat → Sv) (i : Nat) (s : Sv) : Nat → Sv := fun j => bif Nat.beq j i then s else f j
theorem encC_setSlot (c : Ct) (i : Nat) (p : Option Addr) (n k : Nat) (h : i < 6) : (encC c).set (0 + 3 + i * 1) (.slice p n k) = encC { c with slots := us c.slots i ⟨p, n, k⟩ } := by
  rcases six h with rfl | rfl | rfl | rfl | rfl | rfl <;> rfl
theorem encC_setHand (c : Ct) (p : Option Addr) (n k : Nat) : (encC c).set (0 + 9) (.slice p n k) = encC { c with hand := ⟨p, n, k⟩ } := rfl
def Sv0 : Sv := ⟨none, 0, 0⟩
def zeroC : Ct := ⟨0, 0, 0, fun _ => Sv0, Sv0⟩
structure CtOk (c : Ct) : Prop where
  o : I64 c.op
  m : I64 c.member
  u : U64 c.cut
  s : ∀ i, i < 6 → ((c.slots i).n : Int) ≤ 9223372036854775807
  h : (c.hand.n : Int) ≤ 9223372036854775807
def slotB (n : Nat) (must : Bool) : Bool := decide ((n : Int) = 48) || (!must && decide ((n : Int) = 0))
def slotsB (c : Ct) (r : Bool) : Bool := bif !slotB (c.slots 0).n false then false else bif !slotB (c.slots 1).n false then false else bif !slotB (c.slots 2).n false then false else
  bif !slotB (c.slots 3).n false then false else bif !slotB (c.slots 4).n false then false else bif !slotB (c.slots 5).n false then false else r
def someB (c : Ct) : Bool := (((((false || decide (((c.slots 0).n : Int) > 0)) || decide (((c.slots 1).n : Int) > 0)) || decide (((c.slots 2).n : Int) > 0)) || decide (((c.slots 3).n : Int) > 0)) || decide (((c.slots 4).n : Int) > 0)) || decide (((c.slots 5).n : Int) > 0)
def namedB (c : Ct) : Bool := decide (c.member ≥ 1) && decide (c.member ≤ 6)
def ctF1 (c : Ct) : Bool := ((decide (c.member = 0) && decide (c.cut = 0)) && someB c) && decide ((c.hand.n : Int) = 0)
def ctF2 (c : Ct) : Bool := ((namedB c && decide (c.cut = 0)) && someB c) && decide ((c.hand.n : Int) = 0)
def ctF3 (c : Ct) : Bool := ((namedB c && decide (c.cut ≤ 1048576)) && someB c) && decide ((c.hand.n : Int) = 0)
def ctF5 (c : Ct) : Bool := ((namedB c && decide (c.cut = 0)) && !someB c) && slotB c.hand.n true
def cformedB (c : Ct) : Bool := slotsB c (bif decide (c.op = 1) then ctF1 c else bif decide (c.op = 4) then ctF1 c else bif decide (c.op = 2) then ctF2 c else bif decide (c.op = 3) then ctF3 c else bif decide (c.op = 5) then ctF5 c else false)
def rslotB (n : Nat) : Bool := decide ((n : Int) ≠ 0) && decide ((n : Int) ≠ 48)
def rslotsB (c : Ct) (r : Bool) : Bool := bif rslotB (c.slots 0).n then false else bif rslotB (c.slots 1).n then false else bif rslotB (c.slots 2).n then false else
  bif rslotB (c.slots 3).n then false else bif rslotB (c.slots 4).n then false else bif rslotB (c.slots 5).n then false else r
def sumC (c : Ct) : Int := (((((0 + ((c.slots 0).n : Int)) + ((c.slots 1).n : Int)) + ((c.slots 2).n : Int)) + ((c.slots 3).n : Int)) + ((c.slots 4).n : Int)) + ((c.slots 5).n : Int)
def rmeans (c : Ct) : Bool := (decide (c.op = 2) || decide (c.op = 3)) || decide (c.op = 5)
def rbadC (c : Ct) : Bool := (((decide (c.op < 1) || decide (c.op > 5)) || (rmeans c && (decide (c.member < 1) || decide (c.member > 6)))) || (!rmeans c && decide (c.member ≠ 0)))
def rctF5 (c : Ct) : Bool := (decide (sumC c = 0) && decide ((c.hand.n : Int) = 48)) && decide (c.cut = 0)
def rctF (c : Ct) : Bool := (decide (sumC c > 0) && decide ((c.hand.n : Int) = 0)) && (decide (c.cut = 0) || (decide (c.op = 3) && decide (c.cut ≤ 1048576)))
def rcformedB (c : Ct) : Bool := rslotsB c (bif rbadC c then false else bif decide (c.op = 5) then rctF5 c else rctF c)
theorem rslot_eq (n : Nat) : rslotB n = !slotB n false := by
  unfold rslotB slotB
  by_cases h : (n : Int) = 48 <;> by_cases h0 : (n : Int) = 0 <;> simp [h, h0]
theorem some_sum (c : Ct) : someB c = decide (sumC c > 0) := by
  unfold someB sumC
  apply Bool.eq_iff_iff.2
  simp only [Bool.or_eq_true, decide_eq_true_eq, Bool.false_or]
  omega
theorem sum0_some (c : Ct) : decide (sumC c = 0) = !someB c := by
  rw [some_sum]
  have : 0 ≤ sumC c := by unfold sumC; omega
  by_cases h : sumC c = 0
  · simp [h]
  · have : sumC c > 0 := by omega
    simp [h, this]
theorem rcformed_eq (c : Ct) (hc : U64 c.cut) : rcformedB c = cformedB c := by
  unfold rcformedB cformedB rslotsB slotsB
  simp only [rslot_eq]
  have key : (bif rbadC c then false else bif decide (c.op = 5) then rctF5 c else rctF c) =
      (bif decide (c.op = 1) then ctF1 c else bif decide (c.op = 4) then ctF1 c else bif decide (c.op = 2) then ctF2 c else bif decide (c.op = 3) then ctF3 c else bif decide (c.op = 5) then ctF5 c else false) := by
    unfold rbadC rmeans rctF5 rctF ctF1 ctF2 ctF3 ctF5 namedB slotB
    rw [sum0_some, ← some_sum]
    generalize someB c = so
    by_cases h1 : c.op = 1
    · simp [h1]; cases so <;> simp <;> by_cases hm : c.member = 0 <;> by_cases hu : c.cut = 0 <;> by_cases hh : c.hand.n = 0 <;> simp [hm, hu, hh]
    by_cases h2 : c.op = 2
    · simp [h2]; cases so <;> simp <;> by_cases hm : c.member < 1 <;> by_cases hm6 : c.member > 6 <;> by_cases hu : c.cut = 0 <;> by_cases hh : c.hand.n = 0 <;> simp [hm, hm6, hu, hh] <;> omega
    by_cases h3 : c.op = 3
    · have hc0 := hc.1
      simp [h3]; cases so <;> simp <;> by_cases hm : c.member < 1 <;> by_cases hm6 : c.member > 6 <;> by_cases hu : c.cut = 0 <;> by_cases hu2 : c.cut ≤ 1048576 <;> by_cases hh : c.hand.n = 0 <;> simp [hm, hm6, hu, hu2, hh] <;> omega
    by_cases h4 : c.op = 4
    · simp [h4]; cases so <;> simp <;> by_cases hm : c.member = 0 <;> by_cases hu : c.cut = 0 <;> by_cases hh : c.hand.n = 0 <;> simp [hm, hu, hh]
    by_cases h5 : c.op = 5
    · simp [h5]; cases so <;> simp <;> by_cases hm : c.member < 1 <;> by_cases hm6 : c.member > 6 <;> by_cases hu : c.cut = 0 <;> by_cases hh : (c.hand.n : Int) = 48 <;> simp [hm, hm6, hu, hh] <;> omega
    · have : c.op < 1 ∨ c.op > 5 := by omega
      rcases this with h | h <;> simp [h1, h2, h3, h4, h5, h]
  rw [key]
end Go.Proofs.Ytkdbjhlkahkobaa
