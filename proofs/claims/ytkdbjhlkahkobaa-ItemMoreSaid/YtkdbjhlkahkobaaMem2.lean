/- more words for memory: lists of elements as cells, append in its forms, nil, conversion -/
import Derived.Test.YtkdbjhlkahkobaaMem
namespace Jal
open Go Go.RowKit
theorem flatM_len {α : Type} {f : α → List Value} {sz : Nat} (hf : ∀ a, (f a).length = sz) : ∀ (L : List α), (L.flatMap f).length = L.length * sz
  | [] => by simp
  | a :: L => by rw [List.flatMap_cons, List.length_append, hf, flatM_len hf L, List.length_cons, Nat.add_mul]; omega
theorem flatM_get {α : Type} {f : α → List Value} {sz : Nat} (hf : ∀ a, (f a).length = sz) : ∀ (L : List α) (j r : Nat) (a : α), L[j]? = some a → r < sz → (L.flatMap f)[j * sz + r]? = (f a)[r]?
  | [], _, _, _, h, _ => by cases h
  | b :: L, 0, r, a, h, hr => by
    cases h
    rw [List.flatMap_cons, List.getElem?_append_left (by rw [hf]; omega)]
    simp
  | b :: L, j + 1, r, a, h, hr => by
    rw [List.flatMap_cons, List.getElem?_append_right (by rw [hf, Nat.add_mul]; omega), hf]
    have : (j + 1) * sz + r - sz = j * sz + r := by rw [Nat.add_mul]; omega
    rw [this]
    exact flatM_get hf L j r a (by simpa using h) hr
/-- the elements of a row, read -/
theorem OwnL.slInL {α : Type} {f : α → List Value} {e : TypeId} {size : Nat} {p : Option Addr} {c n : Nat} {L : List α} {oe : List Ent} {el : Nat → List Value} (h : OwnL e size (.slice p n c) n (L.flatMap f) oe)
    (hf : ∀ a, (f a).length = size) (hel : ∀ i, i < n → ∃ a, L[i]? = some a ∧ el i = f a) : SlIn oe p n size el :=
  h.slIn fun i hi j v hv => by
    obtain ⟨a, h1, h2⟩ := hel i hi
    have hj : j < size := by rw [← hf a, ← h2]; exact (List.getElem?_eq_some_iff.1 hv).1
    rw [flatM_get hf L i j a h1 hj, ← h2, hv]
theorem Mem.at {w : World} {b o i : Nat} {cs : List Value} {v : Value} (h : Mem w ⟨b, o, none⟩ cs) (hv : cs[i]? = some v) : w.cell? ⟨b, o + i, none⟩ = some v := by
  have := h i v hv
  rwa [Addr.add_off] at this
/-- elements one behind the other -/
theorem mem_flat {w : World} {b o n sz : Nat} {el : Nat → List Value} (h0 : 0 < sz) (hl : ∀ i, (el i).length = sz) (hm : ∀ i, i < n → Mem w ⟨b, o + i * sz, none⟩ (el i)) : Mem w ⟨b, o, none⟩ ((List.range n).flatMap el) := by
  intro j v hv
  have hjl : j < n * sz := by
    have := (List.getElem?_eq_some_iff.1 hv).1
    rwa [flatM_len hl, List.length_range] at this
  have hd : j / sz < n := Nat.div_lt_of_lt_mul (by rw [Nat.mul_comm]; exact hjl)
  have hr : j % sz < sz := Nat.mod_lt _ h0
  have he : j / sz * sz + j % sz = j := by rw [Nat.mul_comm]; exact Nat.div_add_mod j sz
  have h1 := flatM_get hl (List.range n) (j / sz) (j % sz) (j / sz) (by rw [List.getElem?_range hd]) hr
  rw [he, hv] at h1
  have h2 := hm (j / sz) hd (j % sz) v h1.symm
  rw [Addr.add_off] at h2 ⊢
  rw [show o + j = o + j / sz * sz + j % sz from by omega]
  exact h2
section
variable {P : Program} {ops : Array Oper} {Q : Exit → Act → World → Prop} {w0 : World} {H : List Ent} {rest : List Oper} {n : Nat} {F : Nat → Value} {d : Nat} {op : Op} {ty : TypeId} {pos : String} {af : Array Edge} {v : Value}
theorem wl_tail (k : Nat) {X : List Ent} (h : WL P ops Q w0 (H.take k ++ (H.drop k ++ X)) rest n F) : WL P ops Q w0 (H ++ X) rest n F := by
  rwa [← List.append_assoc, List.take_append_drop] at h
/-- append to a row that stands ahead of two parts -/
theorem lapp2 {t e : TypeId} {size bytes : Nat} {s x : Operand} {v : Value} {k : Nat} {xs news : List Value} {ad : Addr} {m c : Nat} (A B1 B2 oe : List Ent) (hT : ElT P t e size bytes) (hH : H = A ++ ((oe ++ B1) ++ B2))
    (hs : ev n F s = v) (hown : OwnL e size v k xs oe) (hx : ev n F x = .slice (some ad) m c) (hl : news.length = m * size) (hnews : ∀ w, Sat w0 H w → Mem w ad news) (h1 : ∀ u ∈ news, u.oneCell' = true)
    (hm : 0 < m) (h63 : k + m ≤ maxLen) (hby : (k + m) * bytes ≤ 140737488355328)
    (h : ∀ g cap oe', OwnL e size (.slice (some ⟨g, 0, none⟩) (k + m) cap) (k + m) (xs ++ news) oe' → WL P ops Q w0 (A ++ (oe' ++ (B1 ++ B2))) rest n (upd F d (.slice (some ⟨g, 0, none⟩) (k + m) cap))) :
    WL P ops Q w0 H (⟨some d, .call { callee := .builtin .append, args := #[s, x], argTypes := #[t, t] }, ty, pos, af, none⟩ :: rest) n F :=
  lapp A (B1 ++ B2) oe hT (by rw [hH, List.append_assoc oe]) hs hown hx hl hnews h1 hm h63 hby h
end
def pb (p : Option Addr) : Nat := (p.getD ⟨0, 0, none⟩).block
def po (p : Option Addr) : Nat := (p.getD ⟨0, 0, none⟩).off
theorem Sl.hp {w : World} {p : Option Addr} {n sz i : Nat} {el : Nat → List Value} (h : Sl w p n sz el) (hi : i < n) : p = some ⟨pb p, po p, none⟩ := by
  obtain ⟨b, o, rfl, _⟩ := h.at hi; rfl
theorem Sl.memP {w w' : World} {p : Option Addr} {n sz i : Nat} {el : Nat → List Value} (h : Sl w p n sz el) (hi : i < n) (hb : Below w.heap.size w w') : Mem w' ⟨pb p, po p + i * sz, none⟩ (el i) := by
  obtain ⟨b, o, rfl, hlt, hm⟩ := h.at hi
  exact (hm i hi).kept hb hlt
theorem wl_nil {P : Program} {ops : Array Oper} {Q : Exit → Act → World → Prop} {w0 : World} {H : List Ent} {rest : List Oper} {n : Nat} {F : Nat → Value} (h : WL P ops Q w0 H rest n F) : WL P ops Q w0 (H ++ []) rest n F := by
  rwa [List.append_nil]
/-- a slice that is made -/
theorem lmk {P : Program} {ops : Array Oper} {Q : Exit → Act → World → Prop} {w0 : World} {H : List Ent} {rest : List Oper} {n : Nat} {F : Nat → Value} {d : Nat} {ty : TypeId} {pos : String} {af : Array Edge}
    {t e : TypeId} {l c : Operand} {vl vc : Value} {len cap : Nat} {cs : List Value} (hl : ev n F l = vl) (hc : ev n F c = vc)
    (hr : ∀ w : World, (Instr.makeSlice t vl vc).run P w = .ok (.slice (some ⟨w.heap.size, 0, none⟩) len cap) (w.alloc (.cells cs.toArray e)))
    (h : ∀ b, WL P ops Q w0 (H ++ [⟨b, cs, e⟩]) rest n (upd F d (.slice (some ⟨b, 0, none⟩) len cap))) : WL P ops Q w0 H (⟨some d, .makeSlice t l c, ty, pos, af, none⟩ :: rest) n F := by
  refine lrun (X := Nat) (fun b => .slice (some ⟨b, 0, none⟩) len cap) (fun b => H ++ [⟨b, cs, e⟩]) (fun _ => True) (fun w hw => ⟨w.heap.size, _, ?_, hw.alloc cs e, trivial⟩) (fun b _ => h b)
  simp [execOp, hl, hc, hr w]
section
variable {P : Program} {C : World → Prop} {ρ : Operand → Value} {d : Option Tmp} {ty : TypeId} {pos : String} {af : Array Edge} {g : Option (Nat × Bool)}
/-- append of nothing -/
theorem lapp0 {t e : TypeId} {size bytes : Nat} {s x : Operand} {p q : Option Addr} {k cp c : Nat} (hT : ElT P t e size bytes) (hs : ρ s = .slice p k cp) (hk : k ≤ cp) (hx : ρ x = .slice q 0 c) :
    Qu P C ρ ⟨d, .call { callee := .builtin .append, args := #[s, x], argTypes := #[t, t] }, ty, pos, af, g⟩ (.slice p k cp) :=
  qu_of_run fun w _ => by
    obtain ⟨i, z, ht, hi, hz, hsize, hbytes, hzs, hpos⟩ := hT.h
    unfold execOp
    simp only [resolve, invoke, builtin, Sem.run_bind, Sem.run_pure, Result.andThen_ok, List.map_toArray, List.map_cons, List.map_nil, hs, hx]
    have hf : ∀ w, (Builtin.firstCells size 0 (.slice q 0 c)).run P w = .ok #[] w := fun w => by
      cases q with
      | none => rfl
      | some a => simp [Builtin.firstCells, loadCells, loadCellsFrom]
    have hsz : ∀ w, (Go.sizeOf e).run P w = .ok size w := fun w => by simp [Go.sizeOf, typeInfo, hi, hsize]
    cases p with
    | none => simp [Builtin.append_, run_underlying ht, hsz, Builtin.lenOf, hk, hf]
    | some a => simp [Builtin.append_, run_underlying ht, hsz, Builtin.lenOf, hk, hf, storeCells]
/-- is a slice nil? -/
theorem eqnil {t t' : TypeId} {sz : Nat} {x y : Operand} {p : Option Addr} {k c : Nat} (ht : SliT P t sz) (hx : ρ x = .slice p k c) (hy : ρ y = .slice none 0 0) : Qu P C ρ ⟨d, .binOp .eql t x y t', ty, pos, af, g⟩ (.bool p.isNone) :=
  qu_of_run fun w _ => by
    obtain ⟨e, hu, _⟩ := ht.h
    have hI : ∀ n, (Op.equalIn (n + 1) t (.slice p k c) (.slice none 0 0)).run P w = .ok p.isNone w := fun n => by
      cases p <;> simp [Op.equalIn, run_underlying hu]
    have h : (Op.equal t (.slice p k c) (.slice none 0 0)).run P w = .ok p.isNone w := hI 9999
    simp only [execOp, hx, hy]
    show (Sem.run P (do (pure () : Sem Unit); let v ← (do pure (Value.bool (← Op.equal t (.slice p k c) (.slice none 0 0)))); pure (Next.value v)) w) = _
    simp [h]
/-- a number of another kind -/
theorem cvi {s t : TypeId} {x : Operand} {k k' : IntKind} {a : Int} (hs : ∃ D, P.underlying s = some D) (ht : P.underlying t = some (.int k')) (hx : ρ x = .int k a) : Qu P C ρ ⟨d, .convert s t x, ty, pos, af, g⟩ (.int k' (k'.wrap a)) :=
  qu_of_run fun w _ => by
    obtain ⟨D, hD⟩ := hs
    simp [execOp, hx, convert, run_underlying hD, run_underlying ht, Conv.intToInt]
theorem cvn {s t : TypeId} {x : Operand} {k k' : IntKind} {a : Int} (hs : ∃ D, P.underlying s = some D) (ht : P.underlying t = some (.int k')) (hx : ρ x = .int k a) (hr : k'.wrap a = a) : Qu P C ρ ⟨d, .convert s t x, ty, pos, af, g⟩ (.int k' a) := by
  have := cvi (P := P) (C := C) (d := d) (ty := ty) (pos := pos) (af := af) (g := g) hs ht hx
  rwa [hr] at this
/-- a rest -/
theorem remn {t t' : TypeId} {x y : Operand} {k : IntKind} {a b r : Int} (hx : ρ x = .int k a) (hy : ρ y = .int k b) (hb : b ≠ 0) (hr : Int.tmod a b = r) : Qu P C ρ ⟨d, .binOp .rem t x y t', ty, pos, af, g⟩ (.int k r) :=
  qu_of_run fun w _ => by subst hr; simp [execOp, hx, hy, eqGuard, binOp, Op.intDiv, hb]
end
end Jal
