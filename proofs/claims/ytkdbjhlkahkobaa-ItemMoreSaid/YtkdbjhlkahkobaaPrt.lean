/- rows parted by item; the rows of an item -/
import Derived.Test.YtkdbjhlkahkobaaMp2
import Derived.Test.YtkdbjhlkahkobaaMp3
/- rows parted by item: plain laws -/
namespace Go.Proofs.Ytkdbjhlkahkobaa
open Jal Go.RowKit
set_option maxRecDepth 100000
def keyR (r : Rw) : Int × Int := (r.hd.writer, r.hd.seq)
def seenR (S : List Rw) (r : Rw) : Bool := S.any fun s => eq140 (keyR r) (keyR s)
def cntStep (S : List Rw) (r : Rw) : List Rw := bif !formedR r || seenR S r then S else S ++ [r]
def counted (l : Nat → Rw) (i : Nat) : List Rw := (rowsL l i).foldl cntStep []
theorem rowsL_succ (l : Nat → Rw) (i : Nat) : rowsL l (i + 1) = rowsL l i ++ [l i] := by unfold rowsL; rw [List.range_succ, List.map_append]; rfl
theorem counted_succ (l : Nat → Rw) (i : Nat) : counted l (i + 1) = cntStep (counted l i) (l i) := by
  unfold counted
  rw [rowsL_succ, List.foldl_append]; rfl
theorem counted_len (l : Nat → Rw) : ∀ i, (counted l i).length ≤ i
  | 0 => Nat.le_refl _
  | i + 1 => by
    rw [counted_succ]
    have := counted_len l i
    unfold cntStep
    cases !formedR (l i) || seenR (counted l i) (l i) with
    | true => show (counted l i).length ≤ _; omega
    | false => show (counted l i ++ [l i]).length ≤ _; rw [List.length_append]; simp; omega
/-- a group: token, rows, where they lie -/
structure Gp where
  tok : Nat → Int
  rows : List Rw
  v : Value
  oe : List Ent
def one64 : Value := .int .i64 1
def cm (S : List Rw) : List ((Int × Int) × Value) := S.map fun r => (keyR r, one64)
def gm (G : List Gp) : List ((Nat → Int) × Value) := G.map fun g => (g.tok, g.v)
def gh (G : List Gp) : List Ent := G.flatMap (·.oe)
theorem cm_len (S : List Rw) : (cm S).length = S.length := by simp [cm]
theorem cm_find (r : Rw) : ∀ (S : List Rw) (i : Nat), findM eq140 (keyR r) (cm S) i = none ∧ seenR S r = false ∨ ∃ j, findM eq140 (keyR r) (cm S) i = some (j, one64) ∧ seenR S r = true
  | [], _ => .inl ⟨rfl, rfl⟩
  | s :: S, i => by
    show (bif eq140 (keyR r) (keyR s) then some (i, one64) else findM eq140 (keyR r) (cm S) (i + 1)) = none ∧ _ ∨ ∃ j, (bif eq140 (keyR r) (keyR s) then some (i, one64) else findM eq140 (keyR r) (cm S) (i + 1)) = some (j, one64) ∧ _
    have e : seenR (s :: S) r = (eq140 (keyR r) (keyR s) || seenR S r) := rfl
    rw [e]
    cases eq140 (keyR r) (keyR s) with
    | true => exact .inr ⟨i, rfl, rfl⟩
    | false => exact cm_find r S (i + 1)
/-- how often it was seen -/
theorem cm_val (S : List Rw) (r : Rw) : valM eq140 (keyR r) (cm S) (.int .i64 0) = .int .i64 (bif seenR S r then 1 else 0) := by
  unfold valM
  rcases cm_find r S 0 with ⟨h1, h2⟩ | ⟨j, h1, h2⟩
  · rw [h1, h2]; rfl
  · rw [h1, h2]; rfl
theorem cm_put {S : List Rw} {r : Rw} (h : seenR S r = false) (z : Value) : putM eq140 (keyR r) (cm S) z = cm S ++ [(keyR r, z)] ∧ idxM eq140 (keyR r) (cm S) = S.length := by
  rcases cm_find r S 0 with ⟨h1, _⟩ | ⟨j, _, h2⟩
  · unfold putM idxM
    rw [h1]
    exact ⟨rfl, cm_len S⟩
  · rw [h] at h2; cases h2
theorem setM_last {κ : Type} (k : κ) (z v : Value) : ∀ (M : List (κ × Value)), setM (M ++ [(k, z)]) M.length v = M ++ [(k, v)]
  | [] => rfl
  | p :: M => by
    have h := setM_last k z v M
    show p :: setM (M ++ [(k, z)]) M.length v = p :: (M ++ [(k, v)])
    rw [h]
/-- after its entry was made, it is there with 0 -/
theorem cm_val2 {S : List Rw} {r : Rw} (h : seenR S r = false) : valM eq140 (keyR r) (cm S ++ [(keyR r, .int .i64 0)]) (.int .i64 0) = .int .i64 0 := by
  have : ∀ (S : List Rw) i, seenR S r = false → ∃ j, findM eq140 (keyR r) (cm S ++ [(keyR r, .int .i64 0)]) i = some (j, .int .i64 0) := by
    intro S
    induction S with
    | nil =>
      intro i _
      refine ⟨i, ?_⟩
      show (bif eq140 (keyR r) (keyR r) then _ else _) = _
      have : eq140 (keyR r) (keyR r) = true := by simp [eq140]
      rw [this]; rfl
    | cons s S ih =>
      intro i hs
      have e : seenR (s :: S) r = (eq140 (keyR r) (keyR s) || seenR S r) := rfl
      rw [e, Bool.or_eq_false_iff] at hs
      obtain ⟨j, hj⟩ := ih (i + 1) hs.2
      refine ⟨j, ?_⟩
      show (bif eq140 (keyR r) (keyR s) then _ else _) = _
      rw [hs.1]
      exact hj
  obtain ⟨j, hj⟩ := this S 0 h
  unfold valM
  rw [hj]
/-- one row more, put into its group -/
def addP (G : List ((Nat → Int) × List Rw)) (r : Rw) : List ((Nat → Int) × List Rw) :=
  match G with
  | [] => [(r.hd.item, [r])]
  | (t, R) :: G => bif eqA 16 r.hd.item t then (t, R ++ [r]) :: G else (t, R) :: addP G r
def partsOf (C : List Rw) : List ((Nat → Int) × List Rw) := C.foldl addP []
def GpOk (g : Gp) : Prop := OwnL 79 130 g.v g.rows.length (g.rows.flatMap encR) g.oe
def pg (G : List Gp) : List ((Nat → Int) × List Rw) := G.map fun g => (g.tok, g.rows)
def znil : Value := .slice none 0 0
theorem grp_step (r : Rw) (N : Nat) : ∀ (G : List Gp) (i : Nat), (∀ g ∈ G, GpOk g) → (∀ g ∈ G, g.rows.length ≤ N) →
    ∃ A B oe rows v j, gh G = A ++ (oe ++ B) ∧ OwnL 79 130 v rows.length (rows.flatMap encR) oe ∧ rows.length ≤ N ∧
      ((findM (eqA 16) r.hd.item (gm G) i = some (i + j, v) ∧ j < G.length) ∨ (findM (eqA 16) r.hd.item (gm G) i = none ∧ v = znil ∧ j = G.length)) ∧
      ∀ v' oe', OwnL 79 130 v' (rows.length + 1) ((rows ++ [r]).flatMap encR) oe' → ∃ G', gh G' = A ++ (oe' ++ B) ∧ (∀ g ∈ G', GpOk g) ∧ (∀ g ∈ G', g.rows.length ≤ N + 1) ∧ pg G' = addP (pg G) r ∧
        gm G' = setM (bif decide (j < G.length) then gm G else gm G ++ [(r.hd.item, znil)]) j v'
  | [], i, _, _ => by
    refine ⟨[], [], [], [], znil, 0, rfl, OwnL.nil 79 130, Nat.zero_le _, .inr ⟨rfl, rfl, rfl⟩, fun v' oe' h => ⟨[⟨r.hd.item, [r], v', oe'⟩], by simp [gh], fun g hg => ?_, fun g hg => ?_, rfl, rfl⟩⟩
    · obtain rfl := List.mem_singleton.1 hg; exact h
    · obtain rfl := List.mem_singleton.1 hg; simp
  | g :: G, i, hok, hN => by
    have e0 : findM (eqA 16) r.hd.item (gm (g :: G)) i = bif eqA 16 r.hd.item g.tok then some (i, g.v) else findM (eqA 16) r.hd.item (gm G) (i + 1) := rfl
    have e1 : addP (pg (g :: G)) r = bif eqA 16 r.hd.item g.tok then (g.tok, g.rows ++ [r]) :: pg G else (g.tok, g.rows) :: addP (pg G) r := rfl
    rw [e0, e1]
    cases hq : eqA 16 r.hd.item g.tok with
    | true =>
      refine ⟨[], gh G, g.oe, g.rows, g.v, 0, rfl, hok g (by simp), hN g (by simp), .inl ⟨rfl, by simp⟩, fun v' oe' h => ⟨⟨g.tok, g.rows ++ [r], v', oe'⟩ :: G, rfl, fun x hx => ?_, fun x hx => ?_, rfl, ?_⟩⟩
      · rcases List.mem_cons.1 hx with rfl | hx
        · unfold GpOk; rw [List.length_append]; exact h
        · exact hok x (List.mem_cons_of_mem _ hx)
      · rcases List.mem_cons.1 hx with rfl | hx
        · have := hN g (by simp)
          show (g.rows ++ [r]).length ≤ _
          rw [List.length_append]; simp; omega
        · have := hN x (List.mem_cons_of_mem _ hx); omega
      · have : decide (0 < (g :: G).length) = true := by simp
        rw [this]; rfl
    | false =>
      obtain ⟨A, B, oe, rows, v, j, h1, h2, h3, h4, h5⟩ := grp_step r N G (i + 1) (fun x hx => hok x (List.mem_cons_of_mem _ hx)) (fun x hx => hN x (List.mem_cons_of_mem _ hx))
      refine ⟨g.oe ++ A, B, oe, rows, v, j + 1, ?_, h2, h3, ?_, fun v' oe' h => ?_⟩
      · show g.oe ++ gh G = _
        rw [h1, List.append_assoc]
      · rcases h4 with ⟨h4, h6⟩ | ⟨h4, h6, h7⟩
        · exact .inl ⟨by show findM (eqA 16) r.hd.item (gm G) (i + 1) = _; rw [h4, show i + 1 + j = i + (j + 1) by omega], by simp; omega⟩
        · exact .inr ⟨h4, h6, by simp; omega⟩
      · obtain ⟨G', g1, g2, g3, g4, g5⟩ := h5 v' oe' h
        refine ⟨g :: G', ?_, fun x hx => ?_, fun x hx => ?_, ?_, ?_⟩
        · show g.oe ++ gh G' = _
          rw [g1, List.append_assoc]
        · rcases List.mem_cons.1 hx with rfl | hx
          · exact hok _ (by simp)
          · exact g2 x hx
        · rcases List.mem_cons.1 hx with rfl | hx
          · have := hN x (by simp); omega
          · exact g3 x hx
        · show (g.tok, g.rows) :: pg G' = _
          rw [g4]; rfl
        · have e2 : decide (j + 1 < (g :: G).length) = decide (j < G.length) := by simp
          rw [e2]
          show (g.tok, g.v) :: gm G' = _
          rw [g5]
          cases decide (j < G.length) <;> rfl
theorem cm_val0 {S : List Rw} {r : Rw} (h : seenR S r = false) : valM eq140 (keyR r) (cm S) (.int .i64 0) = .int .i64 0 := by rw [cm_val, h]; rfl
theorem cm_set (S : List Rw) (r : Rw) (z : Value) : setM (cm S ++ [(keyR r, z)]) S.length one64 = cm (S ++ [r]) := by
  have := setM_last (keyR r) z one64 (cm S)
  rw [cm_len] at this
  rw [this]
  unfold cm
  rw [List.map_append]; rfl
def gput (G : List Gp) (r : Rw) (j : Nat) : List ((Nat → Int) × Value) := bif decide (j < G.length) then gm G else gm G ++ [(r.hd.item, znil)]
theorem grp_find {G : List Gp} {r : Rw} {v : Value} {j : Nat} (h : (findM (eqA 16) r.hd.item (gm G) 0 = some (0 + j, v) ∧ j < G.length) ∨ (findM (eqA 16) r.hd.item (gm G) 0 = none ∧ v = znil ∧ j = G.length)) :
    valM (eqA 16) r.hd.item (gm G) znil = v ∧ idxM (eqA 16) r.hd.item (gm G) = j ∧ putM (eqA 16) r.hd.item (gm G) znil = gput G r j ∧ j < (gput G r j).length := by
  have hl : (gm G).length = G.length := by simp [gm]
  unfold valM idxM putM gput
  rcases h with ⟨h, hj⟩ | ⟨h, hv, hj⟩
  · rw [h, decide_eq_true hj]
    exact ⟨rfl, by simp, rfl, by show j < (gm G).length; omega⟩
  · rw [h, decide_eq_false (by omega)]
    exact ⟨hv.symm, by show (gm G).length = j; omega, rfl, by show j < (gm G ++ [_]).length; simp; omega⟩
structure ParS where
  i : Nat
  G : List Gp
  S : List Rw
  W : World
structure ParOk (w : World) (r1 r2 : Nat) (l : Nat → Rw) (n : Nat) (s : ParS) : Prop where
  hi : s.i ≤ n
  below : Below w.heap.size w s.W
  lo1 : w.heap.size ≤ r1
  lo2 : w.heap.size ≤ r2
  l1 : r1 < s.W.heap.size
  l2 : r2 < s.W.heap.size
  ne : r1 ≠ r2
  o1 : s.W.heap[r1]? = some (mob kv34 (gm s.G))
  o2 : s.W.heap[r2]? = some (mob kv140 (cm s.S))
  cnt : s.S = counted l s.i
  grp : pg s.G = partsOf s.S
  ok : ∀ g ∈ s.G, GpOk g
  len : ∀ g ∈ s.G, g.rows.length ≤ s.i
theorem Below_setB {w W : World} (h : Below w.heap.size w W) {r : Nat} (hr : w.heap.size ≤ r) (o : Obj) : Below w.heap.size w (setB W r o) :=
  ⟨h.os, h.tape, h.output, by rw [setB_size]; exact h.size, fun k hk => by rw [setB_other (by omega)]; exact h.block k hk⟩
theorem ParOk.skip {w : World} {r1 r2 : Nat} {l : Nat → Rw} {n : Nat} {s : ParS} (h : ParOk w r1 r2 l n s) (hi : s.i < n) (hk : (!formedR (l s.i) || seenR s.S (l s.i)) = true) : ParOk w r1 r2 l n ⟨s.i + 1, s.G, s.S, s.W⟩ :=
  ⟨hi, h.below, h.lo1, h.lo2, h.l1, h.l2, h.ne, h.o1, h.o2, by
    show s.S = counted l (s.i + 1)
    rw [counted_succ, ← h.cnt]
    unfold cntStep
    rw [hk]; rfl, h.grp, h.ok, fun g hg => Nat.le_succ_of_le (h.len g hg)⟩
theorem ParOk.next {w : World} {r1 r2 : Nat} {l : Nat → Rw} {n : Nat} {s : ParS} (h : ParOk w r1 r2 l n s) (hi : s.i < n) (hk : (!formedR (l s.i) || seenR s.S (l s.i)) = false) {G' : List Gp}
    (h1 : ∀ g ∈ G', GpOk g) (h2 : ∀ g ∈ G', g.rows.length ≤ s.i + 1) (h3 : pg G' = addP (pg s.G) (l s.i)) : ParOk w r1 r2 l n ⟨s.i + 1, G', s.S ++ [l s.i], setB (setB s.W r2 (mob kv140 (cm (s.S ++ [l s.i])))) r1 (mob kv34 (gm G'))⟩ :=
  ⟨hi, Below_setB (Below_setB h.below h.lo2 _) h.lo1 _, h.lo1, h.lo2, by rw [setB_size, setB_size]; exact h.l1, by rw [setB_size, setB_size]; exact h.l2, h.ne, setB_same (by rw [setB_size]; exact h.l1),
    by rw [setB_other (fun e => h.ne e.symm)]; exact setB_same h.l2, by
      show s.S ++ [l s.i] = counted l (s.i + 1)
      rw [counted_succ, ← h.cnt]
      unfold cntStep
      rw [hk]; rfl, by
      show pg G' = partsOf (s.S ++ [l s.i])
      rw [h3, h.grp]
      unfold partsOf
      rw [List.foldl_append]; rfl, h1, h2⟩
/-- what parting gives -/
def PartR (w : World) (l : Nat → Rw) (n : Nat) : Ending → World → Prop := fun e w' => ∃ r W G, e = .returned (.map (some r)) ∧ Below w.heap.size w W ∧ w.heap.size ≤ r ∧ r < W.heap.size ∧ W.heap[r]? = some (mob kv34 (gm G)) ∧ (∀ g ∈ G, GpOk g) ∧
  pg G = partsOf (counted l n) ∧ (∀ g ∈ G, g.rows.length ≤ n) ∧ Sat W (gh G) w'
theorem bk140 (a b : Int) : ∀ w, (Instr.build 140 #[(0, .int .i64 a), (1, .int .u64 b)]).run Try.prog w = .ok (.agg [.int .i64 a, .int .u64 b].toArray) w := fun w => by kernel_rfl
end Go.Proofs.Ytkdbjhlkahkobaa
/- the rows of an item -/
namespace Go.Proofs.Ytkdbjhlkahkobaa
open Jal Go.RowKit
set_option maxRecDepth 100000
theorem eqA_symm {n : Nat} {a b : Nat → Int} (h : eqA n a b = true) : eqA n b a = true := eqA_iff.2 fun i hi => (eqA_iff.1 h i hi).symm
theorem eqA_trans {n : Nat} {a b c : Nat → Int} (h : eqA n a b = true) (h2 : eqA n b c = true) : eqA n a c = true := eqA_iff.2 fun i hi => (eqA_iff.1 h i hi).trans (eqA_iff.1 h2 i hi)
def lookP (tok : Nat → Int) : List ((Nat → Int) × List Rw) → List Rw
  | [] => []
  | (t, R) :: P => bif eqA 16 tok t then R else lookP tok P
theorem lookP_add (tok : Nat → Int) (r : Rw) : ∀ P : List ((Nat → Int) × List Rw), lookP tok (addP P r) = bif eqA 16 tok r.hd.item then lookP tok P ++ [r] else lookP tok P
  | [] => by
    show (bif eqA 16 tok r.hd.item then [r] else []) = _
    cases eqA 16 tok r.hd.item <;> rfl
  | (t, R) :: P => by
    have ih := lookP_add tok r P
    unfold addP
    cases h1 : eqA 16 r.hd.item t with
    | true =>
      show (bif eqA 16 tok t then R ++ [r] else lookP tok P) = bif eqA 16 tok r.hd.item then (bif eqA 16 tok t then R else lookP tok P) ++ [r] else (bif eqA 16 tok t then R else lookP tok P)
      cases h2 : eqA 16 tok t with
      | true => rw [eqA_trans h2 (eqA_symm h1)]; rfl
      | false =>
        cases h3 : eqA 16 tok r.hd.item with
        | true => rw [eqA_trans h3 h1] at h2; cases h2
        | false => rfl
    | false =>
      show (bif eqA 16 tok t then R else lookP tok (addP P r)) = bif eqA 16 tok r.hd.item then (bif eqA 16 tok t then R else lookP tok P) ++ [r] else (bif eqA 16 tok t then R else lookP tok P)
      rw [ih]
      cases h2 : eqA 16 tok t with
      | true =>
        cases h3 : eqA 16 tok r.hd.item with
        | true => rw [eqA_trans (eqA_symm h3) h2] at h1; cases h1
        | false => rfl
      | false => rfl
def ofRows (tok : Nat → Int) (C : List Rw) : List Rw := C.filter fun r => eqA 16 tok r.hd.item
theorem lookP_fold (tok : Nat → Int) : ∀ (C : List Rw) (P : List ((Nat → Int) × List Rw)), lookP tok (C.foldl addP P) = lookP tok P ++ ofRows tok C
  | [], P => (List.append_nil _).symm
  | r :: C, P => by
    show lookP tok (C.foldl addP (addP P r)) = _
    rw [lookP_fold tok C, lookP_add]
    unfold ofRows
    rw [List.filter_cons]
    cases eqA 16 tok r.hd.item with
    | true => simp
    | false => simp
theorem lookP_parts (tok : Nat → Int) (C : List Rw) : lookP tok (partsOf C) = ofRows tok C := lookP_fold tok C []
theorem grp_look (tok : Nat → Int) (N : Nat) : ∀ (G : List Gp), (∀ g ∈ G, GpOk g) → (∀ g ∈ G, g.rows.length ≤ N) →
    ∃ A B oe v, gh G = A ++ (oe ++ B) ∧ (∀ i, ∃ q, findM (eqA 16) tok (gm G) i = q ∧ (q = none ∧ v = znil ∨ ∃ k, q = some (k, v))) ∧ OwnL 79 130 v (lookP tok (pg G)).length ((lookP tok (pg G)).flatMap encR) oe ∧ (lookP tok (pg G)).length ≤ N
  | [], _, _ => ⟨[], [], [], znil, rfl, fun i => ⟨none, rfl, .inl ⟨rfl, rfl⟩⟩, OwnL.nil 79 130, Nat.zero_le _⟩
  | g :: G, hok, hN => by
    have e0 : ∀ i, findM (eqA 16) tok (gm (g :: G)) i = bif eqA 16 tok g.tok then some (i, g.v) else findM (eqA 16) tok (gm G) (i + 1) := fun _ => rfl
    have e1 : lookP tok (pg (g :: G)) = bif eqA 16 tok g.tok then g.rows else lookP tok (pg G) := rfl
    simp only [e0, e1]
    cases hq : eqA 16 tok g.tok with
    | true => exact ⟨[], gh G, g.oe, g.v, rfl, fun i => ⟨_, rfl, .inr ⟨i, rfl⟩⟩, hok g (by simp), hN g (by simp)⟩
    | false =>
      obtain ⟨A, B, oe, v, h1, h2, h3, h4⟩ := grp_look tok N G (fun x hx => hok x (List.mem_cons_of_mem _ hx)) (fun x hx => hN x (List.mem_cons_of_mem _ hx))
      exact ⟨g.oe ++ A, B, oe, v, by show g.oe ++ gh G = _; rw [h1, List.append_assoc], fun i => h2 (i + 1), h3, h4⟩
theorem grp_val {tok : Nat → Int} {G : List Gp} {v : Value} (h : ∀ i, ∃ q, findM (eqA 16) tok (gm G) i = q ∧ (q = none ∧ v = znil ∨ ∃ k, q = some (k, v))) : valM (eqA 16) tok (gm G) znil = v := by
  obtain ⟨q, h1, h2⟩ := h 0
  unfold valM
  rw [h1]
  rcases h2 with ⟨rfl, rfl⟩ | ⟨k, rfl⟩
  · rfl
  · rfl
def PartF (w : World) (l : Nat → Rw) (n : Nat) (v : Value) (W : World) (Hn : List Ent) : Prop := ∃ r G, v = .map (some r) ∧ Hn = gh G ∧ w.heap.size ≤ r ∧ r < W.heap.size ∧ W.heap[r]? = some (mob kv34 (gm G)) ∧ (∀ g ∈ G, GpOk g) ∧ pg G = partsOf (counted l n) ∧ (∀ g ∈ G, g.rows.length ≤ n)
theorem PartR.base {w : World} {l : Nat → Rw} {n : Nat} {e : Ending} {w' : World} (h : PartR w l n e w') : BaseR (PartF w l n) w e w' := by
  obtain ⟨r, W, G, h1, h2, h3, h4, h5, h6, h7, h8, h9⟩ := h
  exact ⟨_, W, gh G, h1, h2, ⟨r, G, rfl, rfl, h3, h4, h5, h6, h7, h8⟩, h9⟩
theorem cnt_mem (l : Nat → Rw) : ∀ (i : Nat) (r : Rw), r ∈ counted l i → ∃ j, j < i ∧ r = l j ∧ formedR r = true
  | 0, r, h => by cases h
  | i + 1, r, h => by
    rw [counted_succ] at h
    unfold cntStep at h
    cases hk : !formedR (l i) || seenR (counted l i) (l i) with
    | true =>
      rw [hk] at h
      obtain ⟨j, h1, h2⟩ := cnt_mem l i r h
      exact ⟨j, by omega, h2⟩
    | false =>
      rw [hk] at h
      rcases List.mem_append.1 h with h | h
      · obtain ⟨j, h1, h2⟩ := cnt_mem l i r h
        exact ⟨j, by omega, h2⟩
      · obtain rfl := List.mem_singleton.1 h
        rw [Bool.or_eq_false_iff] at hk
        exact ⟨i, by omega, rfl, by simpa using hk.1⟩
/-- the item of a token -/
def ofI (tok : Nat → Int) (l : Nat → Rw) (n : Nat) : It × Bool :=
  bif decide (((ofRows tok (counted l n)).length : Int) = 0) then (iz, false) else (madeI tok (ofRows tok (counted l n)), true)
theorem getL_rows (L : List Rw) : rowsL (fun i => L.getD i rz) L.length = L := by
  apply List.ext_getElem?
  intro i
  unfold rowsL
  rw [List.getElem?_map]
  by_cases hi : i < L.length
  · rw [List.getElem?_range hi, List.getElem?_eq_getElem hi]
    show some (L.getD i rz) = _
    rw [List.getD_eq_getElem?_getD, List.getElem?_eq_getElem hi]; rfl
  · rw [List.getElem?_eq_none (by rw [List.length_range]; omega), List.getElem?_eq_none (by omega)]; rfl
end Go.Proofs.Ytkdbjhlkahkobaa
