/- blocks of the caller; closures; clear; a row laid out under a guard; append of some or none -/
import Derived.Test.YtkdbjhlkahkobaaMem3
/- functions that write into a block of their caller's; closures; clear -/
namespace Jal
open Go Go.RowKit
/-- a function walked from a world that is told of already -/
theorem fn_callsH {P : Program} {n : Nat} {f : FuncId} {fn : Func} {c : Code} {args : Array Value} {w0 w : World} {H : List Ent} {R : Ending → World → Prop} (hs : Sat w0 H w) (hf : P.funcs[f]? = some fn) (hb : fn.body = some c) (hn : fn.ntmps = n)
    (ha : args.size ≤ n) (h : WC P (bodyPost P fn R) w0 H c n (argF args)) : Calls P f args w R := by
  refine calls_of_wp hf hb ?_
  have he : ({ tmps := args ++ Array.replicate (fn.ntmps - args.size) undef, defers := [] } : Act) = fr n (argF args) := by
    unfold fr
    congr 1
    apply Array.ext_getElem?
    intro t
    have h2 := fr_get n (argF args) t
    rw [show ((List.range n).map (argF args)).toArray[t]? = (fr n (argF args)).tmps[t]? from rfl, h2]
    simp only [Array.getElem?_append, Array.getElem?_replicate, hn, argF]
    by_cases h1 : t < args.size
    · rw [if_pos h1, if_pos (by omega)]; simp [h1]
    · rw [if_neg h1]
      by_cases h3 : t < n
      · rw [if_pos (by omega), if_pos h3]; simp [h1]
      · rw [if_neg (by omega), if_neg h3]
  rw [he]
  exact h w hs
def RetS (w0 : World) (φ : Value → List Ent → Prop) : Ending → World → Prop := fun e w' => ∃ v H, e = .returned v ∧ φ v H ∧ Sat w0 H w'
theorem finS {P : Program} {w0 : World} {H : List Ent} {n : Nat} {F : Nat → Value} {fn : Func} {φ : Value → List Ent → Prop} (v : Value) (Hn : List Ent) (hr : ∀ w, Sat w0 H w → (results fn (fr n F).tmps).run P w = .ok v w) (hs : ∃ l : List Ent, l.Perm Hn ∧ l.Sublist H) (hφ : φ v Hn) :
    NQ (bodyPost P fn (RetS w0 φ)) w0 H .ret n F := fun w hw => by
  obtain ⟨l, hp, hl⟩ := hs
  exact ⟨rfl, v, hr w hw, v, Hn, rfl, hφ, (hw.sub hl).perm hp.symm⟩
section
variable {P : Program} {ops : Array Oper} {Q : Exit → Act → World → Prop} {w0 : World} {H : List Ent} {rest : List Oper} {n : Nat} {F : Nat → Value} {d : Nat} {op : Op} {ty : TypeId} {pos : String} {af : Array Edge} {v : Value}
theorem lcls (Hc : List Ent) {f : FuncId} {fx : Operand} {xs : List Operand} {ats : Array TypeId} {args : List Value} {φ : Value → List Ent → Prop} (hb : HasBody P f) (hfx : ev n F fx = .func (.func f) #[] #[])
    (hx : xs.map (ev n F) = args) (hc : ∀ w, Sat w0 Hc w → Calls P f args.toArray w (RetS w0 φ)) (hs : ∃ l : List Ent, l.Perm Hc ∧ l.Sublist H)
    (h : ∀ v Hn, φ v Hn → WL P ops Q w0 Hn rest n (upd F d v)) :
    WL P ops Q w0 H (⟨some d, .call { callee := .value fx, args := xs.toArray, argTypes := ats }, ty, pos, af, none⟩ :: rest) n F := fun w hw => wpList_plain rfl fun K hK => by
  obtain ⟨fn, h1, h2, h3⟩ := hb.h
  obtain ⟨c, hcb⟩ := Option.isSome_iff_exists.1 h3
  obtain ⟨l, hp, hl⟩ := hs
  have h2' : fn.name ≠ "runtime.NumGoroutine" := by simpa using h2
  have hr : (execOp (ev n F) ⟨some d, .call { callee := .value fx, args := xs.toArray, argTypes := ats }, ty, pos, af, none⟩).run P w = .ok (.enter f args.toArray) w := by
    simp [execOp, resolve, hfx, hx, Deferred.ofValue, invoke, callFunc, Sem.run, program, h1, h2', hcb]
  unfold Oper.wp
  rw [fr_eval, hr]
  refine (hc w ((hw.sub hl).perm hp.symm)).mono fun e w' ⟨v, Hn, h4, h5, h6⟩ => ?_
  subst h4
  exact hK _ _ (by rw [fr_put]; exact h v Hn h5 _ h6)
/-- clear: the rest of a row of our own -/
theorem lclear (i : Nat) {t e : TypeId} {size bytes : Nat} {x : Operand} {b : Nat} {cur zs cs' : List Value} {o m c : Nat} (hT : ElT P t e size bytes) (hi : H[i]? = some ⟨b, cur, e⟩) (hx : ev n F x = .slice (some ⟨b, o, none⟩) m c) (hm : 0 < m)
    (hz : ∀ z : Value, (∃ i, P.info? e = some i ∧ i.zero = some z) → (Builtin.zeroCells z.cells m).toList = zs) (hl : zs.length = m * size) (h1 : ∀ v ∈ zs, v.oneCell' = true) (hol : o + zs.length ≤ cur.length)
    (hcs : cur.take o ++ zs ++ cur.drop (o + zs.length) = cs') (h : WL P ops Q w0 (H.set i ⟨b, cs', e⟩) rest n F) :
    WL P ops Q w0 H (⟨none, .call { callee := .builtin .clear, args := #[x], argTypes := #[t] }, ty, pos, af, none⟩ :: rest) n F := fun w hw => wpList_plain rfl fun K hK => by
  obtain ⟨inf, z, ht, hin, hzz, hsize, hbytes, hzs, hpos⟩ := hT.h
  have hs := hw.set hi cs'
  have hb := (hw.own _ (List.mem_of_getElem? hi)).2
  have hst := run_storeCells_at P b o e zs 0 cur.toArray w hb (by simpa using hol) h1
  have hz' := hz z ⟨inf, hin, hzz⟩
  have hr : (execOp (ev n F) ⟨none, .call { callee := .builtin .clear, args := #[x], argTypes := #[t] }, ty, pos, af, none⟩).run P w = .ok (.value (.tuple #[])) (w.setRow b cs'.toArray) := by
    simp only [Nat.add_zero] at hst
    unfold execOp
    simp only [resolve, invoke, builtin, Sem.run_bind, Sem.run_pure, Result.andThen_ok, List.map_toArray, List.map_cons, List.map_nil, hx]
    have hzv : (zeroValue e).run P w = .ok z w := by simp [zeroValue, typeInfo, hin, hzz]
    cases m with
    | zero => omega
    | succ m =>
      simp [Builtin.clear_, run_underlying ht, hzv, hz', hst, ← hcs]
  unfold Oper.wp
  rw [fr_eval, hr]
  exact hK _ _ (by rw [fr_put_none]; exact h _ hs)
end
section
variable {P : Program} {C : World → Prop} {ρ : Operand → Value} {d : Option Tmp} {ty : TypeId} {pos : String} {af : Array Edge} {g : Option (Nat × Bool)}
/-- a call of a closure -/
theorem clc {w0 : World} {H : List Ent} {f : FuncId} {fx : Operand} {xs : List Operand} {ats : Array TypeId} {args lb : List Value} {v : Value} (hb : HasBody P f) (hfx : ρ fx = .func (.func f) #[] lb.toArray)
    (hx : xs.map ρ = args) (hc : ∀ w, Sat w0 H w → Calls P f (args ++ lb).toArray w (Ret v w)) :
    Qu P (Sat w0 H) ρ ⟨d, .call { callee := .value fx, args := xs.toArray, argTypes := ats }, ty, pos, af, g⟩ v := fun w hw => by
  obtain ⟨fn, h1, h2, h3⟩ := hb.h
  obtain ⟨c, hcb⟩ := Option.isSome_iff_exists.1 h3
  have h2' : fn.name ≠ "runtime.NumGoroutine" := by simpa using h2
  have hr : (execOp ρ ⟨d, .call { callee := .value fx, args := xs.toArray, argTypes := ats }, ty, pos, af, g⟩).run P w = .ok (.enter f (args ++ lb).toArray) w := by
    simp [execOp, resolve, hfx, hx, Deferred.ofValue, invoke, callFunc, Sem.run, program, h1, h2', hcb]
  rw [hr]
  exact ⟨rfl, (hc w hw).mono fun e w' h => ⟨h.1, hw.step h.2⟩⟩
theorem mkf1 {f : Fn} {x : Operand} {v : Value} (hx : ρ x = v) : Qu P C ρ ⟨d, .makeFunc f #[] #[x], ty, pos, af, g⟩ (.func f #[] [v].toArray) :=
  qu_of_run fun w _ => by simp [execOp, Instr.makeFunc, hx]
/-- a slice cut at a lower bound -/
theorem sllo {t e : TypeId} {sz : Nat} {x y : Operand} {b o n c m : Nat} {k : IntKind} (hu : P.underlying t = some (.slice e)) (hs : ∀ w, (Go.sizeOf e).run P w = .ok sz w) (hx : ρ x = .slice (some ⟨b, o, none⟩) n c) (hy : ρ y = .int k (m : Int)) (hm : m ≤ n) (hc : m < c) :
    Qu P C ρ ⟨d, .slice t x (some y) none none, ty, pos, af, g⟩ (.slice (some ⟨b, o + m * sz, none⟩) (n - m) (c - m)) :=
  qu_of_run fun w _ => by
    have hb : (Instr.sliceBound (.int k (m : Int)) n .sliceB).run P w = .ok m w := by
      have : (0 : Int) ≤ m ∧ (m : Int) ≤ n := by omega
      simp [Instr.sliceBound, asIntOf, hm]
    have hcm : ¬ c = m := by omega
    simp [execOp, hx, hy, Instr.sliceAt, Instr.slice, Instr.sliceBounds, run_underlying hu, hs, hb, hcm, Addr.add_off]
end
end Jal
/- a row laid out under a guard -/
namespace Jal
open Go Go.RowKit
section
variable {P : Program} {ops : Array Oper} {Q : Exit → Act → World → Prop} {w0 : World} {H : List Ent} {rest : List Oper} {n : Nat} {F : Nat → Value} {d : Nat} {ty : TypeId} {pos : String} {af : Array Edge}
theorem lbsg {j dj : Nat} {want g : Bool} {t e : TypeId} {len : Nat} {parts : List (Nat × Operand)} {vals : List (Nat × Value)} {cs : List Value} (hj : (ops[j]?).bind (·.dst) = some dj) (hg : GW (ev n F (.tmp dj)) want g)
    (hp : g = true → parts.map (fun p => (p.1, ev n F p.2)) = vals)
    (hr : ∀ w : World, (Instr.buildSlice t len vals.toArray).run P w = .ok (.slice (some ⟨w.heap.size, 0, none⟩) len len) (w.alloc (.cells cs.toArray e)))
    (h : ∀ b E, (g = true → E = [⟨b, cs, e⟩]) → WL P ops Q w0 (H ++ E) rest n (upd F d (gv g (.slice (some ⟨b, 0, none⟩) len len)))) : WL P ops Q w0 H (⟨some d, .buildSlice t len parts.toArray, ty, pos, af, some (j, want)⟩ :: rest) n F :=
  fun w hw => wpList_step fun K hK => by
  rw [wanted_fr rfl hj hg]
  cases g with
  | true =>
    rw [if_pos rfl]
    have hr' := hr w
    have hp' := hp rfl
    subst hp'
    have e1 : (parts.toArray.map fun x : Nat × Operand => (x.1, ev n F x.2)) = (parts.map fun p => (p.1, ev n F p.2)).toArray := by simp
    have hx : (execOp (ev n F) ⟨some d, .buildSlice t len parts.toArray, ty, pos, af, some (j, want)⟩).run P w = .ok (.value (.slice (some ⟨w.heap.size, 0, none⟩) len len)) (w.alloc (.cells cs.toArray e)) := by
      unfold execOp
      show (Sem.run P (do let v ← Instr.buildSlice t len (parts.toArray.map fun x : Nat × Operand => (x.1, ev n F x.2)); pure (Next.value v)) w) = _
      rw [e1, Sem.run_bind, hr']; rfl
    unfold Oper.wp
    rw [fr_eval, hx]
    refine hK _ _ ?_
    rw [fr_put]
    have h1 := h w.heap.size [⟨w.heap.size, cs, e⟩] (fun _ => rfl)
    rw [gvt rfl] at h1
    exact h1 _ (hw.alloc cs e)
  | false =>
    rw [if_neg (by simp)]
    have h1 := h 0 [] (fun e => by cases e)
    rw [gv_false, List.append_nil] at h1
    exact hK _ _ (by rw [fr_put]; exact h1 w hw)
/-- append of some, or of none -/
theorem lappx {t e : TypeId} {size bytes : Nat} {s x : Operand} {k cp g0 : Nat} {xs news : List Value} {p : Option Addr} {m c : Nat} (A B oe : List Ent) (hT : ElT P t e size bytes) (hH : H = A ++ (oe ++ B))
    (hs : ev n F s = .slice (some ⟨g0, 0, none⟩) k cp) (hown : OwnL e size (.slice (some ⟨g0, 0, none⟩) k cp) k xs oe) (hx : ev n F x = .slice p m c) (hl : news.length = m * size) (hnews : 0 < m → ∃ ad, p = some ad ∧ ∀ w, Sat w0 H w → Mem w ad news) (h1 : ∀ u ∈ news, u.oneCell' = true)
    (h63 : k + m ≤ maxLen) (hby : (k + m) * bytes ≤ 140737488355328)
    (h : ∀ g cap oe', OwnL e size (.slice (some ⟨g, 0, none⟩) (k + m) cap) (k + m) (xs ++ news) oe' → WL P ops Q w0 (A ++ (oe' ++ B)) rest n (upd F d (.slice (some ⟨g, 0, none⟩) (k + m) cap))) :
    WL P ops Q w0 H (⟨some d, .call { callee := .builtin .append, args := #[s, x], argTypes := #[t, t] }, ty, pos, af, none⟩ :: rest) n F := by
  rcases Nat.eq_zero_or_pos m with hm | hm
  · subst hm
    obtain rfl : news = [] := List.eq_nil_of_length_eq_zero (by omega)
    have h2 := h g0 cp oe (by simpa using hown)
    rw [← hH] at h2
    exact l1 (lapp0 hT hs (OwnL_cap hown).1 hx) h2
  · obtain ⟨ad, rfl, hmem⟩ := hnews hm
    exact lapp A B oe hT hH hs hown hx hl hmem h1 hm h63 hby h
theorem OwnL.blk {e : TypeId} {size g k cap : Nat} {xs : List Value} {oe : List Ent} (h : OwnL e size (.slice (some ⟨g, 0, none⟩) k cap) k xs oe) : ∃ cur, oe = [⟨g, cur, e⟩] := by
  rcases h.2 with ⟨h1, _⟩ | ⟨g', cap', cur, h1, h2, _⟩
  · cases h1
  · cases h1; exact ⟨cur, h2⟩
end
end Jal
