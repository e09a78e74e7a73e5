/- rows: the latest of some; rows in a block; items -/
import Derived.Test.YtkdbjhlkahkobaaRws
import Derived.Test.YtkdbjhlkahkobaaMem4
import Derived.Test.YtkdbjhlkahkobaaTrn
/- rows: the latest of some: plain laws -/
namespace Go.Proofs.Ytkdbjhlkahkobaa
open Jal Go.RowKit
set_option maxRecDepth 100000
def rz : Rw := ⟨hz, false, ⟨0, ByteArray.empty, none, 0, 0, fun _ => ByteArray.empty, ByteArray.empty⟩⟩
def rowsL {α : Type} (l : Nat → α) (n : Nat) : List α := (List.range n).map l
theorem rowsL_len {α : Type} (l : Nat → α) (n : Nat) : (rowsL l n).length = n := by simp [rowsL]
theorem rowsL_get {α : Type} {l : Nat → α} {n i : Nat} (h : i < n) : (rowsL l n)[i]? = some (l i) := by simp [rowsL, h]
theorem rowsL_flat {α : Type} (f : α → List Value) (l : Nat → α) (n : Nat) : (rowsL l n).flatMap f = (List.range n).flatMap (fun i => f (l i)) := by
  unfold rowsL; rw [List.flatMap_map]
theorem el74 : ElT Try.prog 74 79 130 304 := by
  obtain ⟨i, h1, h2, h3, h4⟩ := info_parts (P := Try.prog) (e := 79) (z := .agg (encR rz).toArray) (size := 130) (bytes := 304) (by kernel_rfl)
  exact ⟨i, _, Try.underlying74, h1, h2, h3, h4, rfl, by decide⟩
theorem el75 : ElT Try.prog 75 9 1 16 := by
  obtain ⟨i, h1, h2, h3, h4⟩ := info_parts (P := Try.prog) (e := 9) (z := .string ByteArray.empty) (size := 1) (bytes := 16) (by kernel_rfl)
  exact ⟨i, _, Try.underlying75, h1, h2, h3, h4, rfl, by decide⟩
theorem bs74z : ∀ w : World, (Instr.buildSlice 74 0 #[]).run Try.prog w = .ok (.slice (some ⟨w.heap.size, 0, none⟩) 0 0) (w.alloc (.cells [].toArray 79)) := fun w => by kernel_rfl
theorem bs75z : ∀ w : World, (Instr.buildSlice 75 0 #[]).run Try.prog w = .ok (.slice (some ⟨w.heap.size, 0, none⟩) 0 0) (w.alloc (.cells [].toArray 9)) := fun w => by kernel_rfl
theorem bs74 (x : Rw) : ∀ w : World, (Instr.buildSlice 74 1 #[(0, .agg (encR x).toArray)]).run Try.prog w = .ok (.slice (some ⟨w.heap.size, 0, none⟩) 1 1) (w.alloc (.cells (encR x).toArray 79)) := fun w => by kernel_rfl
theorem bk79z : ∀ w, (Instr.build 79 #[]).run Try.prog w = .ok (.agg (encR rz).toArray) w := fun w => by kernel_rfl
def anyR (_ : Rw) : Bool := true
def knownR (r : Rw) : Bool := r.known
def valuedR (r : Rw) : Bool := r.known && decide (r.ch.op ≠ 3)
/-- the latest of a list, the first of those that are alike -/
def maxL (m : Rw) (l : List Rw) : Rw := l.foldl (fun m x => bif decide (cmpH x.hd m.hd > 0) then x else m) m
def maxT (L : List Rw) (i : Nat) : Rw := maxL (L.getD 0 rz) ((L.drop 1).take i)
theorem getD_getR {O : List Rw} {i : Nat} (h : i < O.length) : O[i]? = some (O.getD i rz) := by
  rw [List.getD_eq_getElem?_getD, List.getElem?_eq_getElem h]; rfl
theorem maxT_succ {L : List Rw} {i : Nat} (h : i + 1 < L.length) : maxT L (i + 1) = bif decide (cmpH (L.getD (i + 1) rz).hd (maxT L i).hd > 0) then L.getD (i + 1) rz else maxT L i := by
  unfold maxT
  have h1 : (L.drop 1).take (i + 1) = (L.drop 1).take i ++ [L.getD (i + 1) rz] := by
    rw [List.take_add_one, List.getElem?_drop, Nat.add_comm 1 i, List.getElem?_eq_getElem h]
    simp [List.getD_eq_getElem?_getD, List.getElem?_eq_getElem h]
  rw [h1]
  unfold maxL
  rw [List.foldl_append]; rfl
theorem maxT_t {L : List Rw} {i : Nat} (h : i + 1 < L.length) (hd : decide (cmpH (L.getD (i + 1) rz).hd (maxT L i).hd > 0) = true) : maxT L (i + 1) = L.getD (i + 1) rz := by rw [maxT_succ h, hd]; rfl
theorem maxT_f {L : List Rw} {i : Nat} (h : i + 1 < L.length) (hd : decide (cmpH (L.getD (i + 1) rz).hd (maxT L i).hd > 0) = false) : maxT L (i + 1) = maxT L i := by rw [maxT_succ h, hd]; rfl
def latR (q : Rw → Bool) (L : List Rw) : Rw × Bool := bif decide (((L.filter q).length : Int) = 0) then (rz, false) else (maxT (L.filter q) ((L.filter q).length - 1), true)
/-- deleting in place -/
structure DelInv (q : Rw → Bool) (L : List Rw) (j i : Nat) (P : List Rw) : Prop where
  len : P.length = L.length
  ij : i < j
  jn : j ≤ L.length
  head : P.take i = (L.take j).filter q
  tail : P.drop j = L.drop j
theorem take_filter_all {q : Rw → Bool} {L : List Rw} {i : Nat} (h : ∀ k, k < i → ∀ r, L[k]? = some r → q r = true) : (L.take i).filter q = L.take i := by
  refine List.filter_eq_self.2 fun r hr => ?_
  obtain ⟨k, hk⟩ := List.getElem?_of_mem hr
  rw [List.getElem?_take] at hk
  split at hk
  · rename_i hlt; exact h k hlt r hk
  · cases hk
theorem take_succR {L : List Rw} {j : Nat} (h : j < L.length) : L.take (j + 1) = L.take j ++ [L.getD j rz] := by
  rw [List.take_add_one, getD_getR h]; rfl
theorem DelInv.start {q : Rw → Bool} {L : List Rw} {i : Nat} (hi : i < L.length) (h : ∀ k, k < i → ∀ r, L[k]? = some r → q r = true) (hq : q (L.getD i rz) = false) : DelInv q L (i + 1) i L := by
  refine ⟨rfl, by omega, by omega, ?_, rfl⟩
  rw [take_succR hi, List.filter_append, take_filter_all h, List.filter_cons, hq, List.filter_nil]
  exact (List.append_nil _).symm
theorem DelInv.skip {q : Rw → Bool} {L P : List Rw} {i j : Nat} (h : DelInv q L j i P) (hj : j < L.length) (hq : q (L.getD j rz) = false) : DelInv q L (j + 1) i P := by
  refine ⟨h.len, by have := h.ij; omega, by omega, ?_, ?_⟩
  · rw [take_succR hj, List.filter_append, ← h.head, List.filter_cons, hq, List.filter_nil]
    exact (List.append_nil _).symm
  · rw [← List.drop_drop, h.tail, List.drop_drop]
theorem DelInv.keep {q : Rw → Bool} {L P : List Rw} {i j : Nat} (h : DelInv q L j i P) (hj : j < L.length) (hq : q (L.getD j rz) = true) : DelInv q L (j + 1) (i + 1) (P.set i (L.getD j rz)) := by
  have hij := h.ij
  have hl := h.len
  refine ⟨by rw [List.length_set]; exact hl, by omega, by omega, ?_, ?_⟩
  · rw [take_succR hj, List.filter_append, ← h.head]
    have : (P.set i (L.getD j rz)).take (i + 1) = P.take i ++ [L.getD j rz] := by
      rw [List.take_add_one, List.getElem?_set_self (by omega), List.take_set_of_le (by omega)]
      rfl
    rw [this, List.filter_cons, hq, List.filter_nil]; rfl
  · rw [List.drop_set_of_lt (by omega), ← List.drop_drop, h.tail, List.drop_drop]
theorem DelInv.get {q : Rw → Bool} {L P : List Rw} {i j : Nat} (h : DelInv q L j i P) (hj : j < L.length) : P.getD j rz = L.getD j rz := by
  have h1 : (P.drop j)[0]? = (L.drop j)[0]? := by rw [h.tail]
  rw [List.getElem?_drop, List.getElem?_drop] at h1
  rw [List.getD_eq_getElem?_getD, List.getD_eq_getElem?_getD]
  simpa using congrArg (·.getD rz) h1
theorem DelInv.done {q : Rw → Bool} {L P : List Rw} {i : Nat} (h : DelInv q L L.length i P) : P.take i = L.filter q ∧ i = (L.filter q).length := by
  have h1 := h.head
  rw [List.take_length] at h1
  refine ⟨h1, ?_⟩
  rw [← h1, List.length_take]
  have := h.ij; have := h.len
  omega
theorem DelInv.done' {q : Rw → Bool} {L P : List Rw} {i j : Nat} (h : DelInv q L j i P) (hj : j = L.length) : P.take i = L.filter q ∧ i = (L.filter q).length := by
  subst hj; exact h.done
end Go.Proofs.Ytkdbjhlkahkobaa
/- rows in a block: read, written, cleared -/
namespace Go.Proofs.Ytkdbjhlkahkobaa
open Jal Go.RowKit
set_option maxRecDepth 100000
section
variable {α : Type} {f : α → List Value} {sz : Nat}
theorem flat_split (hf : ∀ a, (f a).length = sz) (P : List α) (R : List Value) {j : Nat} (hj : j ≤ P.length) : P.flatMap f ++ R = (P.take j).flatMap f ++ ((P.drop j).flatMap f ++ R) ∧ ((P.take j).flatMap f).length = j * sz := by
  refine ⟨?_, ?_⟩
  · rw [← List.append_assoc, ← List.flatMap_append, List.take_append_drop]
  · rw [flatM_len hf, List.length_take, Nat.min_eq_left hj]
theorem flat_take (hf : ∀ a, (f a).length = sz) (P : List α) (R : List Value) {j : Nat} (hj : j ≤ P.length) : (P.flatMap f ++ R).take (j * sz) = (P.take j).flatMap f := by
  obtain ⟨h1, h2⟩ := flat_split hf P R hj
  rw [h1, ← h2, List.take_left']; rfl
theorem flat_drop (hf : ∀ a, (f a).length = sz) (P : List α) (R : List Value) {j : Nat} (hj : j ≤ P.length) : (P.flatMap f ++ R).drop (j * sz) = (P.drop j).flatMap f ++ R := by
  obtain ⟨h1, h2⟩ := flat_split hf P R hj
  rw [h1, ← h2, List.drop_left']; rfl
end
theorem drop_consR {P : List Rw} {j : Nat} (hj : j < P.length) : P.drop j = P.getD j rz :: P.drop (j + 1) := by
  rw [List.drop_eq_getElem_cons hj, List.getD_eq_getElem?_getD, List.getElem?_eq_getElem hj]; rfl
theorem rows_read {P : List Rw} {R : List Value} {j : Nat} {x : Rw} (hj : j < P.length) (hx : P.getD j rz = x) : ((P.flatMap encR ++ R).drop (0 + j * 130)).take 130 = encR x := by
  rw [Nat.zero_add, flat_drop encR_len P R (Nat.le_of_lt hj), drop_consR hj, List.flatMap_cons, List.append_assoc, hx, List.take_left' (encR_len x)]
theorem rows_write {P : List Rw} {R : List Value} {i : Nat} {x : Rw} (hi : i < P.length) : (P.flatMap encR ++ R).take (0 + i * 130) ++ encR x ++ (P.flatMap encR ++ R).drop (0 + i * 130 + (encR x).length) = (P.set i x).flatMap encR ++ R := by
  rw [encR_len, Nat.zero_add, show i * 130 + 130 = (i + 1) * 130 by omega, flat_take encR_len P R (Nat.le_of_lt hi), flat_drop encR_len P R (j := i + 1) (by omega), List.set_eq_take_append_cons_drop, if_pos hi]
  simp [List.flatMap_append, List.append_assoc]
theorem rows_len (P : List Rw) (R : List Value) : (P.flatMap encR ++ R).length = P.length * 130 + R.length := by rw [List.length_append, flatM_len encR_len]
def zrows (m : Nat) : List Value := (Builtin.zeroCells (encR rz).toArray m).toList
theorem zrows_len (m : Nat) : (zrows m).length = m * 130 := by
  unfold zrows
  rw [Array.length_toList, size_zeroCells]; rfl
theorem zrows_one (m : Nat) : ∀ v ∈ zrows m, v.oneCell' = true := by
  intro v hv
  unfold zrows Builtin.zeroCells at hv
  rw [Array.toList_map] at hv
  obtain ⟨i, _, rfl⟩ := List.mem_map.1 hv
  have h : i % (encR rz).toArray.size < (encR rz).toArray.size := Nat.mod_lt _ (by decide)
  rw [getElem!_pos (encR rz).toArray _ h]
  exact encR_one rz _ (by rw [List.getElem_toArray]; exact List.getElem_mem _)
theorem zrows_is (m : Nat) : ∀ z : Value, (∃ i, Try.prog.info? 79 = some i ∧ i.zero = some z) → (Builtin.zeroCells z.cells m).toList = zrows m := by
  rintro z ⟨i, h1, h2⟩
  obtain ⟨i', h1', h2', _⟩ := info_parts (P := Try.prog) (e := 79) (z := .agg (encR rz).toArray) (size := 130) (bytes := 304) (by kernel_rfl)
  rw [h1] at h1'
  cases h1'
  rw [h2] at h2'
  cases h2'
  rfl
/-- what was cleared behind i rows -/
theorem rows_cleared {P : List Rw} {R : List Value} {n i cap g : Nat} (hP : P.length = n) (hi : i < n) (hn : n ≤ cap) (hc : cap ≤ maxLen) (hR : n * 130 + R.length = cap * 130) :
    OwnL 79 130 (.slice (some ⟨g, 0, none⟩) i cap) i ((P.take i).flatMap encR) [⟨g, (P.flatMap encR ++ R).take (0 + i * 130) ++ zrows (n - i) ++ (P.flatMap encR ++ R).drop (0 + i * 130 + (zrows (n - i)).length), 79⟩] := by
  have hil : i ≤ P.length := by omega
  have h1 : ((P.take i).flatMap encR).length = i * 130 := by rw [flatM_len encR_len, List.length_take, Nat.min_eq_left hil]
  refine ⟨h1, .inr ⟨g, cap, _, rfl, rfl, by omega, hc, ?_, ?_⟩⟩
  · rw [Nat.zero_add, flat_take encR_len P R hil, zrows_len, List.length_append, List.length_append, h1, zrows_len, List.length_drop, rows_len, hP]
    omega
  · rw [Nat.zero_add, flat_take encR_len P R hil, List.append_assoc, ← h1, List.take_left' rfl]
end Go.Proofs.Ytkdbjhlkahkobaa
/- items as plain data -/
namespace Go.Proofs.Ytkdbjhlkahkobaa
open Jal Go.RowKit
set_option maxRecDepth 100000
structure It where
  tok : Nat → Int
  hd : Hd
  known : Bool
  alive : Bool
  name : ByteArray
  gp : Option Addr
  gn : Nat
  gc : Nat
  tag : Nat → ByteArray
  value : ByteArray
def encI (i : It) : List Value := arr .u8 16 i.tok ++ (encH i.hd ++ [.bool i.known, .bool i.alive, .string i.name, .slice i.gp i.gn i.gc, .string i.value])
def iz : It := ⟨fun _ => 0, hz, false, false, ByteArray.empty, none, 0, 0, fun _ => ByteArray.empty, ByteArray.empty⟩
theorem encI_len (i : It) : (encI i).length = 146 := rfl
theorem encI_tok (i : It) : ((encI i).drop 0).take 16 = arr .u8 16 i.tok := rfl
theorem encI_hd (i : It) : ((encI i).drop 16).take 125 = encH i.hd := rfl
theorem encI_one (i : It) : ∀ u ∈ encI i, u.oneCell' = true := oneA rfl
theorem encI_setAlive (i : It) (a : Bool) : (encI i).set 142 (.bool a) = encI { i with alive := a } := rfl
theorem encI_setTags (i : It) (p : Option Addr) (n c : Nat) (t : Nat → ByteArray) : (encI i).set 144 (.slice p n c) = encI { i with gp := p, gn := n, gc := c, tag := t } := rfl
theorem encI_setValue (i : It) (v : ByteArray) : (encI i).set 145 (.string v) = encI { i with value := v } := rfl
theorem encI_setTok (i : It) (p : Option Addr) (c : Nat) : (encI i).set (0 + 16 + 53) (.slice p i.hd.tn c) = encI { i with hd := { i.hd with tp := p, tc := c } } := rfl
theorem bk83 (t : Nat → Int) (h : Hd) (k : Bool) (s : ByteArray) : ∀ w, (Instr.build 83 #[(0, .agg (arr .u8 16 t).toArray), (1, .agg (encH h).toArray), (2, .bool k), (4, .string s)]).run Try.prog w = .ok (.agg (encI ⟨t, h, k, false, s, none, 0, 0, fun _ => ByteArray.empty, ByteArray.empty⟩).toArray) w := fun w => by kernel_rfl
def coreI (i : It) : It := { i with hd := core i.hd, gp := none, gc := 0 }
/-- the item of some rows -/
def madeI (tok : Nat → Int) (L : List Rw) : It :=
  bif (latR valuedR L).2 && decide ((latR valuedR L).1.ch.op = 1) then
    ⟨tok, (latR anyR L).1.hd, (latR anyR L).1.known, true, (latR knownR L).1.ch.name, (latR knownR L).1.ch.gp, (latR knownR L).1.ch.gn, (latR knownR L).1.ch.gc, (latR knownR L).1.ch.tag, (latR valuedR L).1.ch.value⟩
  else ⟨tok, (latR anyR L).1.hd, (latR anyR L).1.known, false, (latR knownR L).1.ch.name, none, 0, 0, fun _ => ByteArray.empty, ByteArray.empty⟩
structure ItIn (H : List Ent) (i : It) : Prop where
  h : SlIn H i.hd.tp i.hd.tn 16 (fun k => arr .u8 16 (i.hd.tok k))
  g : SlIn H i.gp i.gn 1 (fun k => encT (i.tag k))
theorem maxL_mem (m : Rw) : ∀ (l : List Rw), maxL m l = m ∨ maxL m l ∈ l
  | [] => .inl rfl
  | x :: l => by
    have e : maxL m (x :: l) = maxL (bif decide (cmpH x.hd m.hd > 0) then x else m) l := rfl
    rw [e]
    rcases maxL_mem (bif decide (cmpH x.hd m.hd > 0) then x else m) l with h | h
    · rw [h]
      cases decide (cmpH x.hd m.hd > 0) with
      | true => exact .inr (by simp)
      | false => exact .inl rfl
    · exact .inr (List.mem_cons_of_mem _ h)
theorem maxT_mem {L : List Rw} {i : Nat} (h : 0 < L.length) : maxT L i ∈ L := by
  unfold maxT
  rcases maxL_mem (L.getD 0 rz) ((L.drop 1).take i) with h1 | h1
  · rw [h1, List.getD_eq_getElem?_getD, List.getElem?_eq_getElem h]
    exact List.getElem_mem h
  · exact List.mem_of_mem_drop (List.mem_of_mem_take h1)
theorem lat_all {q : Rw → Bool} {l : Nat → Rw} {n : Nat} {Pr : Rw → Prop} (h0 : Pr rz) (h : ∀ i, i < n → Pr (l i)) : Pr (latR q (rowsL l n)).1 := by
  unfold latR
  cases hd : decide ((((rowsL l n).filter q).length : Int) = 0) with
  | true => exact h0
  | false =>
    have h1 : 0 < ((rowsL l n).filter q).length := by simp only [decide_eq_false_iff_not] at hd; omega
    have h2 := (List.mem_filter.1 (maxT_mem (i := ((rowsL l n).filter q).length - 1) h1)).1
    obtain ⟨i, hi, h3⟩ := List.mem_map.1 h2
    show Pr (maxT ((rowsL l n).filter q) (((rowsL l n).filter q).length - 1))
    rw [← h3]
    exact h i (List.mem_range.1 hi)
end Go.Proofs.Ytkdbjhlkahkobaa
