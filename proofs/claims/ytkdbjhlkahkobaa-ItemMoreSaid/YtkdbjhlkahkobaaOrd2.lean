/- the order in which entries come: what the walk of it wants -/
import Derived.Test.YtkdbjhlkahkobaaOrd
import Derived.Test.YtkdbjhlkahkobaaMem2
namespace Go.Proofs.Ytkdbjhlkahkobaa
open Jal Go.RowKit
set_option maxRecDepth 100000
def hz : Hd := hdT 0
/-- the least of the first ones -/
def minT (L : List Hd) (i : Nat) : Hd := minL (L.getD 0 hz) ((L.drop 1).take i)
theorem minT_succ {L : List Hd} {i : Nat} (h : i + 1 < L.length) : minT L (i + 1) = bif decide (firstH (L.getD (i + 1) hz) (minT L i) < 0) then L.getD (i + 1) hz else minT L i := by
  unfold minT
  have h1 : (L.drop 1).take (i + 1) = (L.drop 1).take i ++ [L.getD (i + 1) hz] := by
    rw [List.take_add_one, List.getElem?_drop, Nat.add_comm 1 i, List.getElem?_eq_getElem h]
    simp [List.getD_eq_getElem?_getD, List.getElem?_eq_getElem h]
  rw [h1]
  unfold minL
  rw [List.foldl_append]; rfl
theorem minT_t {L : List Hd} {i : Nat} (h : i + 1 < L.length) (hd : decide (firstH (L.getD (i + 1) hz) (minT L i) < 0) = true) : minT L (i + 1) = L.getD (i + 1) hz := by rw [minT_succ h, hd]; rfl
theorem minT_f {L : List Hd} {i : Nat} (h : i + 1 < L.length) (hd : decide (firstH (L.getD (i + 1) hz) (minT L i) < 0) = false) : minT L (i + 1) = minT L i := by rw [minT_succ h, hd]; rfl
theorem minT_all {a : Hd} {t : List Hd} : minT (a :: t) ((a :: t).length - 1) = minL a t := by
  unfold minT
  simp
theorem pick_of {hs : List Hd} {v : Vec} {L : List Hd} (hL : hs.filter (readyH v) = L) (h0 : L ≠ []) : pick hs v = some (minT L (L.length - 1)) := by
  unfold pick
  rw [hL]
  cases L with
  | nil => exact absurd rfl h0
  | cons a t => rw [minT_all]
/-- those of the first ones that are ready -/
def rdyL (l : Nat → Hd) (v : Vec) (i : Nat) : List Hd := ((List.range i).map l).filter (readyH v)
theorem rdyL_t {l : Nat → Hd} {v : Vec} {i : Nat} (h : readyH v (l i) = true) : rdyL l v (i + 1) = rdyL l v i ++ [l i] := by
  unfold rdyL; rw [List.range_succ, List.map_append, List.filter_append]; simp [h]
theorem rdyL_f {l : Nat → Hd} {v : Vec} {i : Nat} (h : readyH v (l i) = false) : rdyL l v (i + 1) = rdyL l v i := by
  unfold rdyL; rw [List.range_succ, List.map_append, List.filter_append]; simp [h]
theorem rdyL_len (l : Nat → Hd) (v : Vec) (i : Nat) : (rdyL l v i).length ≤ i := by
  have h1 : (rdyL l v i).length ≤ ((List.range i).map l).length := List.length_filter_le _ _
  simpa using h1
theorem encV_set (v : Vec) (i : Nat) (x : Int) (h : i < 6) : (encV v).set (0 + i * 1) (.int .u64 x) = encV (ui v i x) := by
  rcases six h with rfl | rfl | rfl | rfl | rfl | rfl <;> rfl
theorem encH_setTok (h : Hd) (p : Option Addr) (c : Nat) : (encH h).set (0 + 53) (.slice p h.tn c) = encH { h with tp := p, tc := c } := rfl
theorem hdOk_retok {h : Hd} (k : HdOk h) (p : Option Addr) (c : Nat) : HdOk { h with tp := p, tc := c } :=
  ⟨k.w, k.s, k.e, k.t, k.n, k.k, k.z, k.tok, k.item, k.prev, k.sum, k.code⟩
theorem encH_one (h : Hd) : ∀ u ∈ encH h, u.oneCell' = true := oneA rfl
theorem bs54 (x : Hd) : ∀ w : World, (Instr.buildSlice 54 1 #[(0, .agg (encH x).toArray)]).run Try.prog w = .ok (.slice (some ⟨w.heap.size, 0, none⟩) 1 1) (w.alloc (.cells (encH x).toArray 37)) := fun w => by kernel_rfl
theorem el54 : ElT Try.prog 54 37 125 232 := by
  obtain ⟨i, h1, h2, h3, h4⟩ := info_parts (P := Try.prog) (e := 37) (z := .agg (encH hz).toArray) (size := 125) (bytes := 232) (by kernel_rfl)
  exact ⟨i, _, Try.underlying54, h1, h2, h3, h4, rfl, by decide⟩
theorem el35 : ElT Try.prog 35 34 16 16 := by
  obtain ⟨i, h1, h2, h3, h4⟩ := info_parts (P := Try.prog) (e := 34) (z := .agg (arr .u8 16 (fun _ => 0)).toArray) (size := 16) (bytes := 16) (by kernel_rfl)
  exact ⟨i, _, Try.underlying35, h1, h2, h3, h4, rfl, by decide⟩
structure OrdS where
  v : Vec
  O : List Hd
  ov : Value
  oe : List Ent
  tl : List Ent
def TokIn (H : List Ent) (o : Hd) : Prop := SlIn H o.tp o.tn 16 (fun i => arr .u8 16 (o.tok i))
structure OrdOk (hs : List Hd) (v0 : Vec) (s : OrdS) : Prop where
  path : Path hs v0 s.O s.v
  own : OwnL 37 125 s.ov s.O.length (s.O.flatMap encH) s.oe
  tok : ∀ o ∈ s.O, TokIn s.tl o ∧ HdOk o
def OrdR (hs : List Hd) (v0 : Vec) (r : Value) (Hn : List Ent) : Prop := ∃ s : OrdS, r = .tuple #[s.ov, .agg (encV s.v).toArray] ∧ Hn = s.oe ++ s.tl ∧ OrdOk hs v0 s ∧ pick hs s.v = none
theorem ordOk0 (hs : List Hd) (v0 : Vec) : OrdOk hs v0 ⟨v0, [], .slice none 0 0, [], []⟩ := ⟨.nil, OwnL.nil 37 125, fun o h => by cases h⟩
theorem OrdOk.next {hs : List Hd} {v0 : Vec} {s : OrdS} {h : Hd} {p : Option Addr} {c : Nat} {g cap : Nat} {oe' Hn : List Ent} (hO : OrdOk hs v0 s) (hp : pick hs s.v = some h) (hk : HdOk h)
    (hn : SlIn Hn p h.tn 16 (fun i => arr .u8 16 (h.tok i))) (hw : OwnL 37 125 (.slice (some ⟨g, 0, none⟩) (s.O.length + 1) cap) (s.O.length + 1) (s.O.flatMap encH ++ encH { h with tp := p, tc := c }) oe') :
    OrdOk hs v0 ⟨putV s.v h, s.O ++ [{ h with tp := p, tc := c }], .slice (some ⟨g, 0, none⟩) (s.O.length + 1) cap, oe', s.tl ++ Hn⟩ := by
  refine ⟨.snoc hO.path hp rfl, ?_, fun o ho => ?_⟩
  · simpa using hw
  · rcases List.mem_append.1 ho with ho | ho
    · obtain ⟨h1, h2⟩ := hO.tok o ho
      exact ⟨h1.mono (fun e he => List.mem_append_left _ he), h2⟩
    · obtain rfl := List.mem_singleton.1 ho
      exact ⟨hn.mono (fun e he => List.mem_append_right _ he), hdOk_retok hk p c⟩
end Go.Proofs.Ytkdbjhlkahkobaa
