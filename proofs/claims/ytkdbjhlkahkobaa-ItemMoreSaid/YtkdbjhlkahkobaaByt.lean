/- bytes: the comparison of two texts of bytes, and slices of arrays -/
import Derived.Test.YtkdbjhlkahkobaaMem
import Derived.Lib.BytesEntry
namespace Jal
open Go Go.RowKit
def lexI : List Int → List Int → Int
  | [], [] => 0
  | [], _ :: _ => -1
  | _ :: _, [] => 1
  | a :: as, b :: bs => bif decide (a < b) then -1 else bif decide (b < a) then 1 else lexI as bs
theorem lexI_eq : ∀ (xs ys : List Int), (∀ x ∈ xs, 0 ≤ x ∧ x ≤ 255) → (∀ x ∈ ys, 0 ≤ x ∧ x ≤ 255) → Lib.compareBytes (Lib.bytesOf xs) (Lib.bytesOf ys) = lexI xs ys
  | [], [], _, _ => rfl
  | [], _ :: _, _, _ => rfl
  | _ :: _, [], _, _ => rfl
  | a :: as, b :: bs, h, k => by
    have ih := lexI_eq as bs (fun x hx => h x (by simp [hx])) (fun x hx => k x (by simp [hx]))
    have ha := h a (by simp)
    have hb := k b (by simp)
    have e : ∀ x y : Int, 0 ≤ x ∧ x ≤ 255 → 0 ≤ y ∧ y ≤ 255 → (x.toNat.toUInt8 < y.toNat.toUInt8 ↔ x < y) := fun x y hx hy => by
      rw [UInt8.lt_iff_toNat_lt]
      have h1 : x.toNat.toUInt8.toNat = x.toNat := by simp [Nat.toUInt8, UInt8.toNat_ofNat]; omega
      have h2 : y.toNat.toUInt8.toNat = y.toNat := by simp [Nat.toUInt8, UInt8.toNat_ofNat]; omega
      rw [h1, h2]; omega
    show Lib.compareBytes (a.toNat.toUInt8 :: Lib.bytesOf as) (b.toNat.toUInt8 :: Lib.bytesOf bs) = _
    simp only [Lib.compareBytes, lexI, e a b ha hb, e b a hb ha, ih, cond_eq_ite, decide_eq_true_eq]
/-- a slice of bytes in memory -/
def BySl (w : World) (p : Option Addr) (n : Nat) (xs : List Int) : Prop := xs.length = n ∧ Sl w p n 1 (fun i => [.int .u8 (xs.getD i 0)])
theorem BySl.load {P : Program} {w : World} {p : Option Addr} {n c : Nat} {xs : List Int} (h : BySl w p n xs) :
    (Extern.Bytes.bytesOf (.slice p n c)).run P w = .ok ⟨(Lib.bytesOf xs).toArray⟩ w := by
  rcases h.2.h with h0 | ⟨b, o, rfl, _, hm⟩
  · subst h0
    have hx : xs = [] := List.eq_nil_of_length_eq_zero h.1
    subst hx
    cases p with
    | none => rfl
    | some a => rfl
  · have hl := Lib.run_loadBytesX (P := P) w xs ⟨b, o, none⟩ .empty (fun j x hj => by
      have hjl : j < xs.length := (List.getElem?_eq_some_iff.1 hj).1
      have h1 := (hm j (by rw [← h.1]; exact hjl)).c0
      rw [Addr.add_off]
      rw [Nat.mul_one] at h1
      rw [h1, List.getD_eq_getElem?_getD, hj]
      rfl)
    rw [h.1] at hl
    show (Extern.Bytes.loadBytes ⟨b, o, none⟩ n .empty).run P w = _
    rw [hl]
    congr 1
    apply ByteArray.ext
    simp
theorem run_compare {P : Program} {w : World} {p q : Option Addr} {n m c d : Nat} {xs ys : List Int} (hx : BySl w p n xs) (hy : BySl w q m ys) (hxr : ∀ x ∈ xs, 0 ≤ x ∧ x ≤ 255) (hyr : ∀ x ∈ ys, 0 ≤ x ∧ x ≤ 255) :
    (Extern.BytealgCompare.compare #[.slice p n c, .slice q m d]).run P w = .ok (.int .i64 (lexI xs ys)) w := by
  change Sem.run P (do pure (goInt (Extern.BytealgCompare.cmp (← Extern.Bytes.bytesOf (.slice p n c)) (← Extern.Bytes.bytesOf (.slice q m d))))) w = _
  simp only [Sem.run_bind, hx.load, hy.load, Sem.run_pure, Result.andThen, Lib.cmp_eq]
  rw [lexI_eq xs ys hxr hyr]
  rfl
/-- a function without a body that the model knows -/
structure ExternAt (P : Program) (f : FuncId) (e : Array Value → Sem Value) : Prop where
  h : ∃ fn, P.funcs[f]? = some fn ∧ (fn.name == "runtime.NumGoroutine") = false ∧ fn.body.isNone = true ∧ Extern.findNext fn = none ∧ Extern.find fn = some e
section
variable {P : Program} {C : World → Prop} {ρ : Operand → Value} {d : Option Tmp} {ty : TypeId} {pos : String} {af : Array Edge} {g : Option (Nat × Bool)}
theorem clx {f : FuncId} {fx : Operand} {xs : List Operand} {ats : Array TypeId} {args : List Value} {v : Value} {e : Array Value → Sem Value} (hb : ExternAt P f e) (hfx : ρ fx = .func (.func f) #[] #[])
    (hx : xs.map ρ = args) (hc : ∀ w, C w → (e args.toArray).run P w = .ok v w) :
    Qu P C ρ ⟨d, .call { callee := .value fx, args := xs.toArray, argTypes := ats }, ty, pos, af, g⟩ v :=
  qu_of_run fun w hw => by
    obtain ⟨fn, h1, h2, h3, h4, h5⟩ := hb.h
    have hr := run_callFunc_extern h1 h2 h3 h4 h5 args.toArray w
    rw [hc w hw] at hr
    simp [execOp, resolve, hfx, hx, Deferred.ofValue, invoke, hr, Result.andThen]
/-- an array's slice, whole -/
theorem slall {t e : TypeId} {len : Nat} {x : Operand} {b o : Nat} {sz : Nat} (hu : P.underlying t = some (.array len e)) (hs : ∀ w, (Go.sizeOf e).run P w = .ok sz w) (hx : ρ x = .pointer (some ⟨b, o, none⟩)) :
    Qu P C ρ ⟨d, .slice t x none none none, ty, pos, af, g⟩ (.slice (some ⟨b, o, none⟩) len len) :=
  qu_of_run fun w _ => by
    by_cases hl : len = 0
    · subst hl
      simp [execOp, hx, Instr.sliceAt, Instr.sliceBounds, run_underlying hu, Instr.sureAddr, hs]
    · simp [execOp, hx, Instr.sliceAt, Instr.sliceBounds, run_underlying hu, Instr.sureAddr, hs, hl, Addr.add_off]
end
theorem arr_get {k : IntKind} {n : Nat} {f : Nat → Int} {i : Nat} (h : i < n) : (arr k n f)[i]? = some (.int k (f i)) := by
  unfold arr
  rw [List.getElem?_map, List.getElem?_range h]; rfl
def tl (n : Nat) (f : Nat → Int) : List Int := (List.range n).map f
theorem tl_getD {n : Nat} {f : Nat → Int} {i : Nat} (h : i < n) : (tl n f).getD i 0 = f i := by
  unfold tl
  rw [List.getD_eq_getElem?_getD, List.getElem?_map, List.getElem?_range h]; rfl
/-- an own array of bytes, as a slice -/
theorem bySl_own {w0 w : World} {H : List Ent} {i n : Nat} {b : Nat} {f : Nat → Int} {t : TypeId} (hw : Sat w0 H w) (hi : H[i]? = some ⟨b, arr .u8 n f, t⟩) : BySl w (some ⟨b, 0, none⟩) n (tl n f) :=
  ⟨by simp [tl], SlIn.sl (.inr ⟨_, List.mem_of_getElem? hi, rfl, fun i hi j v hv => by
    match j with
    | 0 =>
      have hv' : Value.int .u8 ((tl n f).getD i 0) = v := by simpa using hv
      rw [tl_getD hi] at hv'
      show (arr .u8 n f)[i * 1 + 0]? = some v
      rw [Nat.mul_one, Nat.add_zero, arr_get hi, hv']
    | j + 1 => cases hv⟩) hw⟩
theorem tl_mem {n : Nat} {f : Nat → Int} (h : ∀ j, j < n → 0 ≤ f j ∧ f j ≤ 255) : ∀ x ∈ tl n f, 0 ≤ x ∧ x ≤ 255 := by
  intro x hx
  obtain ⟨j, hj, rfl⟩ := List.mem_map.1 hx
  exact h j (List.mem_range.1 hj)
theorem BySl.keptS {w0 w : World} {H : List Ent} {p : Option Addr} {n : Nat} {xs : List Int} (h : BySl w0 p n xs) (hw : Sat w0 H w) : BySl w p n xs := ⟨h.1, h.2.keptS hw⟩
theorem tl_cons (n : Nat) (f : Nat → Int) : tl (n + 1) f = f 0 :: tl n (fun j => f (j + 1)) := by
  unfold tl
  rw [List.range_succ_eq_map, List.map_cons, List.map_map]; rfl
theorem lexI_same : ∀ (n : Nat) (f g : Nat → Int), (∀ j, j < n → f j = g j) → lexI (tl n f) (tl n g) = 0
  | 0, _, _, _ => rfl
  | n + 1, f, g, h => by
    rw [tl_cons, tl_cons]
    have h0 := h 0 (by omega)
    have ih := lexI_same n (fun j => f (j + 1)) (fun j => g (j + 1)) (fun j hj => h (j + 1) (by omega))
    simp only [lexI, h0, ih, Int.lt_irrefl, decide_false, cond_false]
theorem lexI_first : ∀ (n i : Nat) (f g : Nat → Int), i < n → (∀ j, j < i → f j = g j) → f i ≠ g i → lexI (tl n f) (tl n g) = bif decide (f i < g i) then -1 else 1
  | 0, _, _, _, hi, _, _ => by omega
  | n + 1, 0, f, g, _, _, hne => by
    rw [tl_cons, tl_cons]
    simp only [lexI]
    by_cases h1 : f 0 < g 0
    · simp [h1]
    · have h2 : g 0 < f 0 := by omega
      simp [h1, h2]
  | n + 1, i + 1, f, g, hi, h, hne => by
    rw [tl_cons, tl_cons]
    have h0 := h 0 (by omega)
    have ih := lexI_first n i (fun j => f (j + 1)) (fun j => g (j + 1)) (by omega) (fun j hj => h (j + 1) (by omega)) hne
    simp only [lexI, h0, Int.lt_irrefl, decide_false, cond_false]
    exact ih
def lessT (f g : Nat → Int) : Bool := decide (lexI (tl 16 f) (tl 16 g) < 0)
theorem less_first {i : Nat} {f g : Nat → Int} (hi : i < 16) (h : ∀ j, j < i → f j = g j) (hne : f i ≠ g i) : decide (f i < g i) = lessT f g := by
  unfold lessT
  rw [lexI_first 16 i f g hi h hne]
  by_cases h1 : f i < g i <;> simp [h1]
theorem less_none {f g : Nat → Int} (h : ∀ j, j < 16 → f j = g j) : lessT f g = false := by
  unfold lessT
  rw [lexI_same 16 f g h]; rfl
def sortedT (n : Nat) (t : Nat → Nat → Int) : Bool := (List.range (n - 1)).all fun j => lessT (t j) (t (j + 1))
theorem sortedT_iff {n : Nat} {t : Nat → Nat → Int} : sortedT n t = true ↔ ∀ j, j + 1 < n → lessT (t j) (t (j + 1)) = true := by
  unfold sortedT
  rw [List.all_eq_true]
  refine ⟨fun h j hj => h j (List.mem_range.2 (by omega)), fun h j hj => h j (by have := List.mem_range.1 hj; omega)⟩
theorem sortedT_no {n j : Nat} {t : Nat → Nat → Int} (hj : j + 1 < n) (h : lessT (t j) (t (j + 1)) = false) : sortedT n t = false := by
  cases hs : sortedT n t with
  | false => rfl
  | true => have := sortedT_iff.1 hs j hj; rw [h] at this; cases this
end Jal
