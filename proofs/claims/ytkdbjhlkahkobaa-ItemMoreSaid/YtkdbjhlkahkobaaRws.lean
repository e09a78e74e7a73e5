/- rows as plain data -/
import Derived.Test.YtkdbjhlkahkobaaOrd2
import Derived.Test.YtkdbjhlkahkobaaMem3
namespace Go.Proofs.Ytkdbjhlkahkobaa
open Jal Go.RowKit
set_option maxRecDepth 100000
structure Ch where
  op : Int
  name : ByteArray
  gp : Option Addr
  gn : Nat
  gc : Nat
  tag : Nat → ByteArray
  value : ByteArray
def encCh (c : Ch) : List Value := [.int .i64 c.op, .string c.name, .slice c.gp c.gn c.gc, .string c.value]
def encT (s : ByteArray) : List Value := [.string s]
def ChIn (w : World) (c : Ch) : Prop := Sl w c.gp c.gn 1 (fun i => encT (c.tag i))
structure ChOk (c : Ch) : Prop where
  o : I64 c.op
  n : (c.gn : Int) ≤ 9223372036854775807
  m : c.name.size ≤ maxLen
  v : c.value.size ≤ maxLen
  t : ∀ i, i < c.gn → (c.tag i).size ≤ maxLen
structure Rw where
  hd : Hd
  known : Bool
  ch : Ch
def encR (r : Rw) : List Value := encH r.hd ++ (.bool r.known :: encCh r.ch)
theorem encR_hd (r : Rw) : ((encR r).drop 0).take 125 = encH r.hd := rfl
theorem encR_known (r : Rw) : (encR r)[125]? = some (.bool r.known) := rfl
theorem encR_ch (r : Rw) : ((encR r).drop 126).take 4 = encCh r.ch := rfl
theorem encR_len (r : Rw) : (encR r).length = 130 := rfl
theorem encR_item (r : Rw) : ((encR r).drop 37).take 16 = arr .u8 16 r.hd.item := rfl
theorem encR_one (r : Rw) : ∀ u ∈ encR r, u.oneCell' = true := oneA rfl
structure RwIn (w : World) (r : Rw) : Prop where
  h : HdIn w r.hd
  c : ChIn w r.ch
structure RwOk (r : Rw) : Prop where
  h : HdOk r.hd
  c : ChOk r.ch
theorem RwIn.keptS {w0 w : World} {H : List Ent} {r : Rw} (h : RwIn w0 r) (hw : Sat w0 H w) : RwIn w r := ⟨Sl.keptS h.h hw, Sl.keptS h.c hw⟩
/-! ### texts -/
theorem bl_irrefl : ∀ (a : List UInt8), Op.bytesLess a a = false
  | [] => rfl
  | x :: a => by simp [Op.bytesLess, bl_irrefl a]
theorem bl_total : ∀ (a b : List UInt8), (!Op.bytesLess a b) = (Op.bytesLess b a || b == a)
  | [], [] => rfl
  | [], _ :: _ => rfl
  | _ :: _, [] => rfl
  | x :: a, y :: b => by
    have ih := bl_total a b
    unfold Op.bytesLess
    by_cases h : x = y
    · subst h
      simp [ih]
    · have h2 : ¬ y = x := fun e => h e.symm
      rcases Nat.lt_or_gt_of_ne (fun e => h (UInt8.toNat_inj.1 e)) with hlt | hlt
      · have h3 : x < y := UInt8.lt_iff_toNat_lt.2 hlt
        have h4 : ¬ y < x := fun hc => by have := UInt8.lt_iff_toNat_lt.1 hc; omega
        simp [h, h2, h3, h4]
      · have h3 : y < x := UInt8.lt_iff_toNat_lt.2 hlt
        have h4 : ¬ x < y := fun hc => by have := UInt8.lt_iff_toNat_lt.1 hc; omega
        simp [h, h2, h3, h4]
def nameB (s : ByteArray) : Bool := decide ((s.size : Int) ≥ 1) && decide ((s.size : Int) ≤ 24)
/-- what is wrong with the i-th tag -/
def tagBad (t : Nat → ByteArray) (i : Nat) : Bool := !nameB (t i) || (decide ((i : Int) > 0) && !Op.bytesLess (t (i - 1)).toList (t i).toList)
def tagsB (n : Nat) (t : Nat → ByteArray) : Bool := !(List.range n).any (tagBad t)
theorem tags_bad {n i : Nat} {t : Nat → ByteArray} (hi : i < n) (h : tagBad t i = true) : tagsB n t = false := by
  unfold tagsB
  rw [List.any_eq_true.2 ⟨i, List.mem_range.2 hi, h⟩]; rfl
theorem tags_good {n : Nat} {t : Nat → ByteArray} (h : ∀ i, i < n → tagBad t i = false) : tagsB n t = true := by
  unfold tagsB
  have : (List.range n).any (tagBad t) = false := by
    rw [List.any_eq_false]
    intro i hi
    rw [h i (List.mem_range.1 hi)]; simp
  rw [this]; rfl
def emptyB (s : ByteArray) : Bool := s.toList == (ByteArray.mk #[]).toList
def fchB (c : Ch) : Bool := bif ((!nameB c.name || !(tagsB c.gn c.tag && decide ((c.gn : Int) ≤ 8))) || decide ((c.value.size : Int) > 512)) then false else
  bif decide (c.op = 2) then (bif decide ((c.gn : Int) > 0) then false else emptyB c.value) else bif decide (c.op = 3) then emptyB c.value else decide (c.op = 1)
def blankB (c : Ch) : Bool := ((decide (c.op = 0) && emptyB c.name) && decide ((c.gn : Int) = 0)) && emptyB c.value
def formedR (r : Rw) : Bool := bif !formedH r.hd || r.hd.control then false else bif r.known then fchB r.ch else blankB r.ch
end Go.Proofs.Ytkdbjhlkahkobaa
