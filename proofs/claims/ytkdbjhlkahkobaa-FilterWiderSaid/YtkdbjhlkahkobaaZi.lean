/- several texts of ours, joined: Yp, Itd, Yq, Flu, Yr, Ys, Dec, Dc, Dv, Dh -/
import Derived.Test.YtkdbjhlkahkobaaZa
import Derived.Test.YtkdbjhlkahkobaaZh
import Derived.ProofKit
import Derived.OpenShut
import Derived.Deep.Slices
import Derived.ShutString
import Derived.ChangeOld
import Derived.Carry
import Derived.Test.YtkdbjhlkahkobaaProg
import Derived.KernelRfl
import Derived.Test.YtkdbjhlkahkobaaZc
import Derived.WideShapes
/- walks, printed by a program of ours -/
namespace Go.Proofs.Ytkdbjhlkahkobaa
open Jal Go.RowKit
set_option maxRecDepth 100000
theorem sidx_calls (w : World) (p : Option Addr) (n c : Nat) (t : Nat → ByteArray) (hl : Sl w p n 1 (fun i => encT (t i))) (hn : n ≤ 100) (s0 : ByteArray) : Calls Try.prog 127 #[.slice p n c, .string s0] w (Ret (.int .i64 (idxN (fun j => (s0.toList == (t j).toList)) n)) w) := by
  refine fn_calls (n := 19) Try.func127 rfl rfl (lb rfl) ?_
  refine cseq ?_
  refine creg ?_
  refine l1 (asgi rfl) ?_
  refine lnil ?_
  refine nthen ?_
  refine cseq ?_
  refine cseq ?_
  refine creg ?_
  refine l1 (mvs rfl) ?_
  refine l1 (lens sl75 rfl rfl) ?_
  refine l1 (mvi rfl) ?_
  refine lnil ?_
  refine nthen ?_
  refine cblock ?_
  refine cloopI (σ := Nat) (fun s => [(0, .slice p n c), (1, .string s0), (7, .int .i64 (n : Int)), (8, .int .i64 (s : Int))]) (fun s => []) (fun s => s ≤ n ∧ ∀ j, j < s → (s0.toList == (t j).toList) = false) (fun s => n - s) 0 ⟨Nat.zero_le _, fun j hj => by omega⟩ ⟨rfl, rfl, rfl, rfl, trivial⟩ (List.Sublist.refl _) ?_
  rintro i j hI
  show WC _ _ _ ([]) _ _ (over j [(0, .slice p n c), (1, .string s0), (7, .int .i64 (n : Int)), (8, .int .i64 (i : Int))])
  replace hI : i ≤ n ∧ ∀ j, j < i → (s0.toList == (t j).toList) = false := hI
  refine cseq ?_
  refine creg ?_
  refine l1 (lss rfl rfl) ?_
  refine lnil ?_
  refine nthen ?_
  refine cseq ?_
  refine cif rfl (fun h1 => ?_) (fun h1 => ?_)
  · have hlt : i < n := by (have := dt h1; omega)
    obtain ⟨b, o, hp, hbl, hm⟩ := hl.at hlt
    refine cskip ?_
    refine nthen ?_
    refine cseq ?_
    refine cblock ?_
    refine cseq ?_
    refine creg ?_
    refine l1 (mvi rfl) ?_
    refine l1 (asgi rfl) ?_
    refine lnil ?_
    refine nthen ?_
    refine cseq ?_
    refine creg ?_
    refine l1 (mvt rfl) ?_
    refine l1 (mvs rfl) ?_
    refine l1 (mvi rfl) ?_
    refine l1 (isp sl75 hp rfl rfl (by omega) (by omega)) ?_
    refine l1 (ldm (v := .string (t i)) Try.isAgg9 rfl (fun w' hw => ((hm i hlt).kept hw.below hbl).c0)) ?_
    refine l1 (eqls rfl rfl) ?_
    refine lnil ?_
    refine nthen ?_
    refine cif rfl (fun h2 => ?_) (fun h2 => ?_)
    · skip
      refine cseq ?_
      refine creg ?_
      refine l1 (mvi rfl) ?_
      refine l1 (asgi rfl) ?_
      refine lnil ?_
      refine nthen ?_
      refine cret ?_
      refine nblkR ?_
      refine nthenR ?_
      refine nIR ?_
      refine nblkR ?_
      refine nthenR ?_
      exact fin1i rfl rfl (by rw [idxN_yes (p := fun j => (s0.toList == (t j).toList)) hlt h2 hI.2])
    · skip
      refine cskip ?_
      refine nblkN ?_
      refine nthen ?_
      refine creg ?_
      first | refine l1 (addn rfl rfl (ri (by omega) (by omega))) ?_ | refine l1 (add rfl rfl) ?_
      refine l1 (mvi rfl) ?_
      refine lnil ?_
      exact nI (i + 1) ⟨by omega, fun j hj => (Nat.lt_succ_iff_lt_or_eq.1 hj).elim (fun h => hI.2 j h) (fun h => by subst h; exact h2)⟩ (by show n - (i + 1) < n - i; omega) ⟨rfl, rfl, rfl, rfl, trivial⟩ (List.Sublist.refl _)
  · skip
    refine cexit ?_
    refine nthenE ?_
    refine nIE ?_
    refine nblkE ?_
    refine nthen ?_
    refine cseq ?_
    refine creg ?_
    refine l1 (asgi rfl) ?_
    refine lnil ?_
    refine nthen ?_
    refine cret ?_
    exact fin1i rfl rfl (by rw [idxN_no (p := fun j => (s0.toList == (t j).toList)) (fun j hj => hI.2 j (by have := df h1; omega))])

theorem has_calls (w : World) (p : Option Addr) (n c : Nat) (t : Nat → ByteArray) (hl : Sl w p n 1 (fun i => encT (t i))) (hn : n ≤ 100) (s : ByteArray) : Calls Try.prog 101 #[.slice p n c, .string s] w (Ret (.bool (hasT n t s)) w) := by
  refine fn_calls (n := 9) Try.func101 rfl rfl (lb rfl) ?_
  refine cseq ?_
  refine creg ?_
  refine l1 (asgb rfl) ?_
  refine lnil ?_
  refine nthen ?_
  refine cseq ?_
  refine creg ?_
  refine l1 (mvs rfl) ?_
  refine l1 (mvt rfl) ?_
  refine l1 (cl hb127 rfl (mc rfl (mc rfl mn)) (fun w hw => sidx_calls w _ _ _ _ (Sl.keptS hl hw) hn _)) ?_
  refine l1 (geq rfl rfl) ?_
  refine l1 (asgb rfl) ?_
  refine lnil ?_
  refine nthen ?_
  refine cret ?_
  exact fin1b rfl rfl (idxN_ge _ _)

def PredT (w : World) (f : FuncId) (es : List Value) (q : ByteArray → Bool) : Prop := ∀ s w' H, Sat w H w' → Calls Try.prog f (.string s :: es).toArray w' (Ret (.bool (q s)) w')
theorem PredT.kept {w w1 : World} {H : List Ent} {f : FuncId} {es : List Value} {q : ByteArray → Bool} (h : PredT w f es q) (hw : Sat w H w1) : PredT w1 f es q := fun s w' H' h' => h s w' _ (hw.join h')

theorem sidxf_calls (w : World) (p : Option Addr) (n c : Nat) (t : Nat → ByteArray) (hl : Sl w p n 1 (fun i => encT (t i))) (hn : n ≤ 100) (f : FuncId) (es : List Value) (q : ByteArray → Bool) (hf : HasBody Try.prog f) (hq : PredT w f es q) : Calls Try.prog 126 #[.slice p n c, .func (.func f) #[] es.toArray] w (Ret (.int .i64 (idxN (fun j => q (t j)) n)) w) := by
  refine fn_calls (n := 19) Try.func126 rfl rfl (lb rfl) ?_
  refine cseq ?_
  refine creg ?_
  refine l1 (asgi rfl) ?_
  refine lnil ?_
  refine nthen ?_
  refine cseq ?_
  refine cseq ?_
  refine creg ?_
  refine l1 (mvs rfl) ?_
  refine l1 (lens sl75 rfl rfl) ?_
  refine l1 (mvi rfl) ?_
  refine lnil ?_
  refine nthen ?_
  refine cblock ?_
  refine cloopI (σ := Nat) (fun s => [(0, .slice p n c), (1, .func (.func f) #[] es.toArray), (7, .int .i64 (n : Int)), (8, .int .i64 (s : Int))]) (fun s => []) (fun s => s ≤ n ∧ ∀ j, j < s → q (t j) = false) (fun s => n - s) 0 ⟨Nat.zero_le _, fun j hj => by omega⟩ ⟨rfl, rfl, rfl, rfl, trivial⟩ (List.Sublist.refl _) ?_
  rintro i j hI
  show WC _ _ _ ([]) _ _ (over j [(0, .slice p n c), (1, .func (.func f) #[] es.toArray), (7, .int .i64 (n : Int)), (8, .int .i64 (i : Int))])
  replace hI : i ≤ n ∧ ∀ j, j < i → q (t j) = false := hI
  refine cseq ?_
  refine creg ?_
  refine l1 (lss rfl rfl) ?_
  refine lnil ?_
  refine nthen ?_
  refine cseq ?_
  refine cif rfl (fun h1 => ?_) (fun h1 => ?_)
  · have hlt : i < n := by (have := dt h1; omega)
    obtain ⟨b, o, hp, hbl, hm⟩ := hl.at hlt
    refine cskip ?_
    refine nthen ?_
    refine cseq ?_
    refine cblock ?_
    refine cseq ?_
    refine creg ?_
    refine l1 (mvi rfl) ?_
    refine l1 (asgi rfl) ?_
    refine lnil ?_
    refine nthen ?_
    refine cseq ?_
    refine creg ?_
    refine l1 (mvf rfl) ?_
    refine l1 (mvs rfl) ?_
    refine l1 (mvi rfl) ?_
    refine l1 (isp sl75 hp rfl rfl (by omega) (by omega)) ?_
    refine l1 (ldm (v := .string (t i)) Try.isAgg9 rfl (fun w' hw => ((hm i hlt).kept hw.below hbl).c0)) ?_
    refine l1 (clc hf rfl (mc rfl mn) (fun w' hw => hq _ w' _ hw)) ?_
    refine lnil ?_
    refine nthen ?_
    refine cif rfl (fun h2 => ?_) (fun h2 => ?_)
    · skip
      refine cseq ?_
      refine creg ?_
      refine l1 (mvi rfl) ?_
      refine l1 (asgi rfl) ?_
      refine lnil ?_
      refine nthen ?_
      refine cret ?_
      refine nblkR ?_
      refine nthenR ?_
      refine nIR ?_
      refine nblkR ?_
      refine nthenR ?_
      exact fin1i rfl rfl (by rw [idxN_yes (p := fun j => q (t j)) hlt h2 hI.2])
    · skip
      refine cskip ?_
      refine nblkN ?_
      refine nthen ?_
      refine creg ?_
      first | refine l1 (addn rfl rfl (ri (by omega) (by omega))) ?_ | refine l1 (add rfl rfl) ?_
      refine l1 (mvi rfl) ?_
      refine lnil ?_
      exact nI (i + 1) ⟨by omega, fun j hj => (Nat.lt_succ_iff_lt_or_eq.1 hj).elim (fun h => hI.2 j h) (fun h => by subst h; exact h2)⟩ (by show n - (i + 1) < n - i; omega) ⟨rfl, rfl, rfl, rfl, trivial⟩ (List.Sublist.refl _)
  · skip
    refine cexit ?_
    refine nthenE ?_
    refine nIE ?_
    refine nblkE ?_
    refine nthen ?_
    refine cseq ?_
    refine creg ?_
    refine l1 (asgi rfl) ?_
    refine lnil ?_
    refine nthen ?_
    refine cret ?_
    exact fin1i rfl rfl (by rw [idxN_no (p := fun j => q (t j)) (fun j hj => hI.2 j (by have := df h1; omega))])

theorem anyf_calls (w : World) (p : Option Addr) (n c : Nat) (t : Nat → ByteArray) (hl : Sl w p n 1 (fun i => encT (t i))) (hn : n ≤ 100) (f : FuncId) (es : List Value) (q : ByteArray → Bool) (hf : HasBody Try.prog f) (hq : PredT w f es q) : Calls Try.prog 99 #[.slice p n c, .func (.func f) #[] es.toArray] w (Ret (.bool ((List.range n).any fun j => q (t j))) w) := by
  refine fn_calls (n := 9) Try.func99 rfl rfl (lb rfl) ?_
  refine cseq ?_
  refine creg ?_
  refine l1 (asgb rfl) ?_
  refine lnil ?_
  refine nthen ?_
  refine cseq ?_
  refine creg ?_
  refine l1 (mvs rfl) ?_
  refine l1 (mvf rfl) ?_
  refine l1 (cl hb126 rfl (mc rfl (mc rfl mn)) (fun w hw => sidxf_calls w _ _ _ _ (Sl.keptS hl hw) hn f es q hf (hq.kept hw))) ?_
  refine l1 (geq rfl rfl) ?_
  refine l1 (asgb rfl) ?_
  refine lnil ?_
  refine nthen ?_
  refine cret ?_
  exact fin1b rfl rfl (idxN_ge _ _)

/-- a filter in a block of the caller's -/
structure FltAt (w : World) (b : Nat) (f : Flt) : Prop where
  lt : b < w.heap.size
  a : w.cell? ⟨b, 0, none⟩ = some (.bool f.all)
  t : w.cell? ⟨b, 0 + 1, none⟩ = some (.slice f.fp f.fn f.fc)
  h : FlIn w f
  n : f.fn ≤ 100
theorem FltAt.kept {w w' : World} {H : List Ent} {b : Nat} {f : Flt} (h : FltAt w b f) (hw : Sat w H w') : FltAt w' b f :=
  ⟨Nat.lt_of_lt_of_le h.lt hw.below.size, (hw.below.cell h.lt).trans h.a, (hw.below.cell h.lt).trans h.t, Sl.keptS h.h hw, h.n⟩
theorem FltAt.own {w0 w : World} {H : List Ent} {i b : Nat} {f : Flt} {t : TypeId} (hw : Sat w0 H w) (hi : H[i]? = some ⟨b, encF f, t⟩) (h : FlIn w0 f) (hn : f.fn ≤ 100) : FltAt w b f :=
  ⟨hw.lt (List.mem_of_getElem? hi), hw.cell (e := ⟨b, encF f, t⟩) hi rfl, hw.cell (e := ⟨b, encF f, t⟩) hi rfl, Sl.keptS h hw, hn⟩

theorem shw1_calls (F0 : Flt) (b : Nat) (s : ByteArray) (w : World) (hF : FltAt w b F0) : Calls Try.prog 100 #[.string s, .pointer (some ⟨b, 0, none⟩)] w (Ret (.bool (hasT F0.fn F0.tag s)) w) := by
  refine fn_calls (n := 8) Try.func100 rfl rfl (lb rfl) ?_
  refine cseq ?_
  refine creg ?_
  refine l1 (asgb rfl) ?_
  refine lnil ?_
  refine nthen ?_
  refine cseq ?_
  refine creg ?_
  refine l1 (fa fa96_1 rfl) ?_
  refine l1 (ldm (v := .slice F0.fp F0.fn F0.fc) Try.isAgg75 rfl (fun w' hw => (hw.below.cell hF.lt).trans hF.t)) ?_
  refine l1 (mvt rfl) ?_
  refine l1 (cl hb101 rfl (mc rfl (mc rfl mn)) (fun w hw => has_calls w _ _ _ _ (Sl.keptS hF.h hw) hF.n _)) ?_
  refine l1 (asgb rfl) ?_
  refine lnil ?_
  refine nthen ?_
  refine cret ?_
  exact fin1 rfl rfl

theorem wid1_calls (F0 : Flt) (b : Nat) (s : ByteArray) (w : World) (hF : FltAt w b F0) : Calls Try.prog 103 #[.string s, .pointer (some ⟨b, 0, none⟩)] w (Ret (.bool (!hasT F0.fn F0.tag s)) w) := by
  refine fn_calls (n := 9) Try.func103 rfl rfl (lb rfl) ?_
  refine cseq ?_
  refine creg ?_
  refine l1 (asgb rfl) ?_
  refine lnil ?_
  refine nthen ?_
  refine cseq ?_
  refine creg ?_
  refine l1 (fa fa96_1 rfl) ?_
  refine l1 (ldm (v := .slice F0.fp F0.fn F0.fc) Try.isAgg75 rfl (fun w' hw => (hw.below.cell hF.lt).trans hF.t)) ?_
  refine l1 (mvt rfl) ?_
  refine l1 (cl hb101 rfl (mc rfl (mc rfl mn)) (fun w hw => has_calls w _ _ _ _ (Sl.keptS hF.h hw) hF.n _)) ?_
  refine l1 (nt rfl) ?_
  refine l1 (asgb rfl) ?_
  refine lnil ?_
  refine nthen ?_
  refine cret ?_
  exact fin1 rfl rfl

theorem shows_calls (w : World) (F0 : Flt) (hF : FlIn w F0) (hFn : F0.fn ≤ 100) (i : It) (hi : ItSat w i) (hg : i.gn ≤ 100) : Calls Try.prog 61 #[.agg (encF F0).toArray, .agg (encI i).toArray] w (Ret (.bool (showsB F0 i)) w) := by
  refine fn_calls (n := 21) Try.func61 rfl rfl (lb rfl) ?_
  refine cseq ?_
  refine creg ?_
  refine lbxa rfl (fun b1 => ?_)
  refine lbxa rfl (fun b2 => ?_)
  refine l1 (asgb rfl) ?_
  refine lnil ?_
  refine nthen ?_
  refine cseq ?_
  refine cseq ?_
  refine creg ?_
  refine l1 (fa fa83_3 rfl) ?_
  refine l1 (ldc 1 Try.isAgg4 rfl rfl rfl) ?_
  refine l1 (nt rfl) ?_
  refine l1 (mvb rfl) ?_
  refine l1g rfl (gwf rfl) (fun h => fa fa83_2 rfl) ?_
  refine l1g rfl (gwf rfl) (fun h => ldc 1 Try.isAgg4 rfl (gvt h) rfl) ?_
  refine l1g rfl (gwf rfl) (fun h => nt (gvt h)) ?_
  refine l1 (pk_or rfl rfl rfl) ?_
  refine lnil ?_
  refine nthen ?_
  refine cif rfl (fun h1 => ?_) (fun h1 => ?_)
  · skip
    refine cseq ?_
    refine creg ?_
    refine l1 (asgb rfl) ?_
    refine lnil ?_
    refine nthen ?_
    refine cret ?_
    refine nthenR ?_
    exact fin1b rfl rfl (by first | rfl | (simp only [showsB, h1, cond_true, cond_false]; done) | (simp only [showsB, h1, cond_true, cond_false]; rfl))
  · skip
    refine cskip ?_
    refine nthen ?_
    refine cseq ?_
    refine creg ?_
    refine l1 (fa fa96_0 rfl) ?_
    refine l1 (ldc 0 Try.isAgg4 rfl rfl rfl) ?_
    refine l1 (mvb rfl) ?_
    refine l1g rfl (gwf rfl) (fun h => fa fa83_5 rfl) ?_
    refine l1g rfl (gwf rfl) (fun h => ldc 1 Try.isAgg75 rfl (gvt h) rfl) ?_
    refine l1g rfl (gwf rfl) (fun h => mkf1 rfl) ?_
    refine l1g rfl (gwf rfl) (fun h => cl hb99 rfl (mc (gvt h) (mc (gvt h) mn)) (fun w hw => anyf_calls w _ _ _ _ (Sl.keptS hi.g hw) hg 100 [.pointer (some ⟨b1, 0, none⟩)] (hasT F0.fn F0.tag) hb100 (fun s w' H h => shw1_calls F0 b1 s w' ((FltAt.own (i := 0) hw rfl hF hFn).kept h)))) ?_
    refine l1 (pk_or rfl rfl rfl) ?_
    refine l1 (asgb rfl) ?_
    refine lnil ?_
    refine nthen ?_
    refine cret ?_
    exact fin1b rfl rfl (by first | rfl | (simp only [showsB, h1, cond_true, cond_false]; done) | (simp only [showsB, h1, cond_true, cond_false]; rfl))

theorem rhas_calls (w : World) (p : Option Addr) (n c : Nat) (t : Nat → ByteArray) (hl : Sl w p n 1 (fun i => encT (t i))) (hn : n ≤ 100) (s0 : ByteArray) : Calls Try.prog 102 #[.slice p n c, .string s0] w (Ret (.bool (rhasT n t s0)) w) := by
  refine fn_calls (n := 18) Try.func102 rfl rfl (lb rfl) ?_
  refine cseq ?_
  refine creg ?_
  refine l1 (asgb rfl) ?_
  refine lnil ?_
  refine nthen ?_
  refine cseq ?_
  refine cseq ?_
  refine creg ?_
  refine l1 (asg rfl) ?_
  refine lnil ?_
  refine nthen ?_
  refine cblock ?_
  refine cloopI (σ := Nat) (fun s => [(0, .slice p n c), (1, .string s0), (5, .int .i64 (s : Int))]) (fun s => []) (fun s => s ≤ n ∧ ∀ j, j < s → ((t j).toList == s0.toList) = false) (fun s => n - s) 0 ⟨Nat.zero_le _, fun j hj => by omega⟩ ⟨rfl, rfl, rfl, trivial⟩ (List.Sublist.refl _) ?_
  rintro i j hI
  show WC _ _ _ ([]) _ _ (over j [(0, .slice p n c), (1, .string s0), (5, .int .i64 (i : Int))])
  replace hI : i ≤ n ∧ ∀ j, j < i → ((t j).toList == s0.toList) = false := hI
  refine cseq ?_
  refine cseq ?_
  refine creg ?_
  refine l1 (mvi rfl) ?_
  refine l1 (mvs rfl) ?_
  refine l1 (lens sl75 rfl rfl) ?_
  refine l1 (lss rfl rfl) ?_
  refine lnil ?_
  refine nthen ?_
  refine cif rfl (fun h1 => ?_) (fun h1 => ?_)
  · have hlt : i < n := by (have := dt h1; omega)
    obtain ⟨b, o, hp, hbl, hm⟩ := hl.at hlt
    refine cskip ?_
    refine nthen ?_
    refine cseq ?_
    refine cblock ?_
    refine cseq ?_
    refine creg ?_
    refine l1 (mvs rfl) ?_
    refine l1 (mvi rfl) ?_
    refine l1 (isp sl75 hp rfl rfl (by omega) (by omega)) ?_
    refine l1 (ldm (v := .string (t i)) Try.isAgg9 rfl (fun w' hw => ((hm i hlt).kept hw.below hbl).c0)) ?_
    refine l1 (mvt rfl) ?_
    refine l1 (eqls rfl rfl) ?_
    refine lnil ?_
    refine nthen ?_
    refine cif rfl (fun h2 => ?_) (fun h2 => ?_)
    · skip
      refine cseq ?_
      refine creg ?_
      refine l1 (asgb rfl) ?_
      refine lnil ?_
      refine nthen ?_
      refine cret ?_
      refine nblkR ?_
      refine nthenR ?_
      refine nIR ?_
      refine nblkR ?_
      refine nthenR ?_
      exact fin1b rfl rfl ((rhas_yes hlt h2).symm)
    · skip
      refine cskip ?_
      refine nblkN ?_
      refine nthen ?_
      refine creg ?_
      refine l1 (mvi rfl) ?_
      first | refine l1 (addn rfl rfl (ri (by omega) (by omega))) ?_ | refine l1 (add rfl rfl) ?_
      refine l1 (asg rfl) ?_
      refine lnil ?_
      exact nI (i + 1) ⟨by omega, fun j hj => (Nat.lt_succ_iff_lt_or_eq.1 hj).elim (fun h => hI.2 j h) (fun h => by subst h; exact h2)⟩ (by show n - (i + 1) < n - i; omega) ⟨rfl, rfl, rfl, trivial⟩ (List.Sublist.refl _)
  · skip
    refine cexit ?_
    refine nthenE ?_
    refine nIE ?_
    refine nblkE ?_
    refine nthen ?_
    refine cseq ?_
    refine creg ?_
    refine l1 (asgb rfl) ?_
    refine lnil ?_
    refine nthen ?_
    refine cret ?_
    exact fin1b rfl rfl ((rhas_no (fun j hj => hI.2 j (by have := df h1; omega))).symm)

theorem rshows_calls (w : World) (F0 : Flt) (hF : FlIn w F0) (hFn : F0.fn ≤ 100) (i : It) (hi : ItSat w i) (hg : i.gn ≤ 100) : Calls Try.prog 62 #[.agg (encF F0).toArray, .agg (encI i).toArray] w (Ret (.bool (rshowsB F0 i)) w) := by
  refine fn_calls (n := 36) Try.func62 rfl rfl (lb rfl) ?_
  refine cseq ?_
  refine creg ?_
  refine lbxa rfl (fun b1 => ?_)
  refine lbxa rfl (fun b2 => ?_)
  refine l1 (asgb rfl) ?_
  refine lnil ?_
  refine nthen ?_
  refine cseq ?_
  refine creg ?_
  refine l1 (fa fa96_0 rfl) ?_
  refine l1 (ldc 0 Try.isAgg4 rfl rfl rfl) ?_
  refine l1 (asgb rfl) ?_
  refine lnil ?_
  refine nthen ?_
  refine cseq ?_
  refine cseq ?_
  refine creg ?_
  refine l1 (asg rfl) ?_
  refine lnil ?_
  refine nthen ?_
  refine cblock ?_
  refine cloopI (σ := Nat) (fun s => [(2, .pointer (some ⟨b1, 0, none⟩)), (3, .pointer (some ⟨b2, 0, none⟩)), (5, .bool (someR F0 i s)), (6, .int .i64 (s : Int))]) (fun s => [⟨b1, encF F0, 96⟩, ⟨b2, encI i, 83⟩]) (fun s => s ≤ i.gn) (fun s => i.gn - s) 0 (Nat.zero_le _) ⟨rfl, rfl, rfl, rfl, trivial⟩ (List.Sublist.refl _) ?_
  rintro k j hk
  show WC _ _ _ ([⟨b1, encF F0, 96⟩, ⟨b2, encI i, 83⟩]) _ _ (over j [(2, .pointer (some ⟨b1, 0, none⟩)), (3, .pointer (some ⟨b2, 0, none⟩)), (5, .bool (someR F0 i k)), (6, .int .i64 (k : Int))])
  replace hk : k ≤ i.gn := hk
  refine cseq ?_
  refine cseq ?_
  refine creg ?_
  refine l1 (mvi rfl) ?_
  refine l1 (fa fa83_5 rfl) ?_
  refine l1 (ldc 1 Try.isAgg75 rfl rfl rfl) ?_
  refine l1 (lens sl75 rfl rfl) ?_
  refine l1 (lss rfl rfl) ?_
  refine lnil ?_
  refine nthen ?_
  refine cif rfl (fun h1 => ?_) (fun h1 => ?_)
  · have hlt : k < i.gn := by (have := dt h1; omega)
    obtain ⟨b, o, hp, hbl, hm⟩ := hi.g.at hlt
    refine cskip ?_
    refine nthen ?_
    refine cseq ?_
    refine cblock ?_
    refine cregq mo (by kernel_rfl) ?_
    refine q1 (mvb rfl) ?_
    refine q1 (mvb rfl) ?_
    refine q1g rfl (gwf rfl) (fun h => fa fa96_1 rfl) ?_
    refine q1g rfl (gwf rfl) (fun h => ldc 0 Try.isAgg75 rfl (gvt h) rfl) ?_
    refine q1g rfl (gwf rfl) (fun h => fa fa83_5 rfl) ?_
    refine q1g rfl (gwf rfl) (fun h => ldc 1 Try.isAgg75 rfl (gvt h) rfl) ?_
    refine q1g rfl (gwf rfl) (fun h => mvi rfl) ?_
    refine q1g rfl (gwf rfl) (fun h => isp sl75 hp (gvt h) (gvt h) (by omega) (by omega)) ?_
    refine q1g rfl (gwf rfl) (fun h => ldm (v := .string (i.tag k)) Try.isAgg9 (gvt h) (fun w' hw => ((hm k hlt).kept hw.below hbl).c0)) ?_
    refine q1g rfl (gwf rfl) (fun h => cl hb102 rfl (mc (gvt h) (mc (gvt h) mn)) (fun w hw => rhas_calls w _ _ _ _ (Sl.keptS hF hw) hFn _)) ?_
    refine q1 (pk_or rfl rfl rfl) ?_
    refine q1 (asgb rfl) ?_
    refine qnil ?_
    refine nblkN ?_
    refine nthen ?_
    refine creg ?_
    refine l1 (mvi rfl) ?_
    first | refine l1 (addn rfl rfl (ri (by omega) (by omega))) ?_ | refine l1 (add rfl rfl) ?_
    refine l1 (asg rfl) ?_
    refine lnil ?_
    exact nI (k + 1) (by show k + 1 ≤ i.gn; omega) (by show i.gn - (k + 1) < i.gn - k; omega) ⟨rfl, rfl, rfl, rfl, trivial⟩ (List.Sublist.refl _)
  · have hke : k = i.gn := by (have := df h1; omega)
    refine cexit ?_
    refine nthenE ?_
    refine nIE ?_
    refine nblkE ?_
    refine nthen ?_
    refine cseq ?_
    refine creg ?_
    refine l1 (fa fa83_3 rfl) ?_
    refine l1 (ldc 1 Try.isAgg4 rfl rfl rfl) ?_
    refine l1 (mvb rfl) ?_
    refine l1g rfl (gwt rfl) (fun h => fa fa83_2 rfl) ?_
    refine l1g rfl (gwt rfl) (fun h => ldc 1 Try.isAgg4 rfl (gvt h) rfl) ?_
    refine l1 (pk_and rfl rfl rfl) ?_
    refine l1 (mvb rfl) ?_
    refine l1g rfl (gwt rfl) (fun h => mvb rfl) ?_
    refine l1 (pk_and rfl rfl rfl) ?_
    refine l1 (asgb rfl) ?_
    refine lnil ?_
    refine nthen ?_
    refine cret ?_
    exact fin1b rfl rfl (by rw [hke, someR_eq]; rfl)

theorem wider_calls (w : World) (x y : Flt) (hX : FlIn w x) (hXn : x.fn ≤ 100) (hY : FlIn w y) (hYn : y.fn ≤ 100) : Calls Try.prog 63 #[.agg (encF x).toArray, .agg (encF y).toArray] w (Ret (.bool (widerB x y)) w) := by
  refine fn_calls (n := 19) Try.func63 rfl rfl (lb rfl) ?_
  refine cseq ?_
  refine creg ?_
  refine lbxa rfl (fun b1 => ?_)
  refine lbxa rfl (fun b2 => ?_)
  refine l1 (asgb rfl) ?_
  refine lnil ?_
  refine nthen ?_
  refine cseq ?_
  refine creg ?_
  refine l1 (fa fa96_0 rfl) ?_
  refine l1 (ldc 0 Try.isAgg4 rfl rfl rfl) ?_
  refine l1 (mvb rfl) ?_
  refine l1g rfl (gwf rfl) (fun h => fa fa96_0 rfl) ?_
  refine l1g rfl (gwf rfl) (fun h => ldc 1 Try.isAgg4 rfl (gvt h) rfl) ?_
  refine l1g rfl (gwf rfl) (fun h => nt (gvt h)) ?_
  refine l1g rfl (gwf rfl) (fun h => mvb (gvt h)) ?_
  refine l1g rfl (ggt rfl) (fun h => fa fa96_1 rfl) ?_
  refine l1g rfl (ggt rfl) (fun h => ldc 1 Try.isAgg75 rfl (gvt h) rfl) ?_
  refine l1g rfl (ggt rfl) (fun h => mkf1 rfl) ?_
  refine l1g rfl (ggt rfl) (fun h => cl hb99 rfl (mc (gvt h) (mc (gvt h) mn)) (fun w hw => anyf_calls w _ _ _ _ (Sl.keptS hY hw) hYn 103 [.pointer (some ⟨b1, 0, none⟩)] (fun s => !hasT x.fn x.tag s) hb103 (fun s w' H h => wid1_calls x b1 s w' ((FltAt.own (i := 0) hw rfl hX hXn).kept h)))) ?_
  refine l1g rfl (ggt rfl) (fun h => nt (gvt h)) ?_
  refine l1g rfl (gwf rfl) (fun h => pk_and (gvt h) (gva h) rfl) ?_
  refine l1 (pk_or rfl rfl rfl) ?_
  refine l1 (asgb rfl) ?_
  refine lnil ?_
  refine nthen ?_
  refine cret ?_
  exact fin1b rfl rfl rfl

theorem rwider_calls (w : World) (x y : Flt) (hX : FlIn w x) (hXn : x.fn ≤ 100) (hY : FlIn w y) (hYn : y.fn ≤ 100) : Calls Try.prog 64 #[.agg (encF x).toArray, .agg (encF y).toArray] w (Ret (.bool (rwiderB x y)) w) := by
  refine fn_calls (n := 34) Try.func64 rfl rfl (lb rfl) ?_
  refine cseq ?_
  refine creg ?_
  refine lbxa rfl (fun b1 => ?_)
  refine lbxa rfl (fun b2 => ?_)
  refine l1 (asgb rfl) ?_
  refine lnil ?_
  refine nthen ?_
  refine cseq ?_
  refine cseq ?_
  refine creg ?_
  refine l1 (asg rfl) ?_
  refine lnil ?_
  refine nthen ?_
  refine cblock ?_
  refine cloopI (σ := Nat) (fun s => [(2, .pointer (some ⟨b1, 0, none⟩)), (3, .pointer (some ⟨b2, 0, none⟩)), (5, .int .i64 (s : Int))]) (fun s => [⟨b1, encF x, 96⟩, ⟨b2, encF y, 96⟩]) (fun s => s ≤ y.fn ∧ ∀ j, j < s → rwBad x y j = false) (fun s => y.fn - s) 0 ⟨Nat.zero_le _, fun j hj => by omega⟩ ⟨rfl, rfl, rfl, trivial⟩ (List.Sublist.refl _) ?_
  rintro k j hI
  show WC _ _ _ ([⟨b1, encF x, 96⟩, ⟨b2, encF y, 96⟩]) _ _ (over j [(2, .pointer (some ⟨b1, 0, none⟩)), (3, .pointer (some ⟨b2, 0, none⟩)), (5, .int .i64 (k : Int))])
  replace hI : k ≤ y.fn ∧ ∀ j, j < k → rwBad x y j = false := hI
  refine cseq ?_
  refine cseq ?_
  refine creg ?_
  refine l1 (mvi rfl) ?_
  refine l1 (fa fa96_1 rfl) ?_
  refine l1 (ldc 1 Try.isAgg75 rfl rfl rfl) ?_
  refine l1 (lens sl75 rfl rfl) ?_
  refine l1 (lss rfl rfl) ?_
  refine lnil ?_
  refine nthen ?_
  refine cif rfl (fun h1 => ?_) (fun h1 => ?_)
  · have hlt : k < y.fn := by (have := dt h1; omega)
    obtain ⟨b, o, hp, hbl, hm⟩ := hY.at hlt
    refine cskip ?_
    refine nthen ?_
    refine cseq ?_
    refine cblock ?_
    refine cseq ?_
    refine cregq mo (by kernel_rfl) ?_
    refine q1 (fa fa96_0 rfl) ?_
    refine q1 (ldc 0 Try.isAgg4 rfl rfl rfl) ?_
    refine q1 (nt rfl) ?_
    refine q1 (mvb rfl) ?_
    refine q1g rfl (gwt rfl) (fun h => fa fa96_1 rfl) ?_
    refine q1g rfl (gwt rfl) (fun h => ldc 0 Try.isAgg75 rfl (gvt h) rfl) ?_
    refine q1g rfl (gwt rfl) (fun h => fa fa96_1 rfl) ?_
    refine q1g rfl (gwt rfl) (fun h => ldc 1 Try.isAgg75 rfl (gvt h) rfl) ?_
    refine q1g rfl (gwt rfl) (fun h => mvi rfl) ?_
    refine q1g rfl (gwt rfl) (fun h => isp sl75 hp (gvt h) (gvt h) (by omega) (by omega)) ?_
    refine q1g rfl (gwt rfl) (fun h => ldm (v := .string (y.tag k)) Try.isAgg9 (gvt h) (fun w' hw => ((hm k hlt).kept hw.below hbl).c0)) ?_
    refine q1g rfl (gwt rfl) (fun h => cl hb102 rfl (mc (gvt h) (mc (gvt h) mn)) (fun w hw => rhas_calls w _ _ _ _ (Sl.keptS hX hw) hXn _)) ?_
    refine q1g rfl (gwt rfl) (fun h => nt (gvt h)) ?_
    refine q1 (pk_and rfl rfl rfl) ?_
    refine qnil ?_
    refine nthen ?_
    refine cif rfl (fun h2 => ?_) (fun h2 => ?_)
    · change rwBad x y k = _ at h2
      refine cseq ?_
      refine creg ?_
      refine l1 (asgb rfl) ?_
      refine lnil ?_
      refine nthen ?_
      refine cret ?_
      refine nblkR ?_
      refine nthenR ?_
      refine nIR ?_
      refine nblkR ?_
      refine nthenR ?_
      exact fin1b rfl rfl ((rwider_no hlt h2).symm)
    · change rwBad x y k = _ at h2
      refine cskip ?_
      refine nblkN ?_
      refine nthen ?_
      refine creg ?_
      refine l1 (mvi rfl) ?_
      first | refine l1 (addn rfl rfl (ri (by omega) (by omega))) ?_ | refine l1 (add rfl rfl) ?_
      refine l1 (asg rfl) ?_
      refine lnil ?_
      exact nI (k + 1) ⟨by omega, fun j hj => (Nat.lt_succ_iff_lt_or_eq.1 hj).elim (fun h => hI.2 j h) (fun h => by subst h; exact h2)⟩ (by show y.fn - (k + 1) < y.fn - k; omega) ⟨rfl, rfl, rfl, trivial⟩ (List.Sublist.refl _)
  · skip
    refine cexit ?_
    refine nthenE ?_
    refine nIE ?_
    refine nblkE ?_
    refine nthen ?_
    refine cseq ?_
    refine creg ?_
    refine l1 (fa fa96_0 rfl) ?_
    refine l1 (ldc 0 Try.isAgg4 rfl rfl rfl) ?_
    refine l1 (mvb rfl) ?_
    refine l1g rfl (gwf rfl) (fun h => fa fa96_0 rfl) ?_
    refine l1g rfl (gwf rfl) (fun h => ldc 1 Try.isAgg4 rfl (gvt h) rfl) ?_
    refine l1g rfl (gwf rfl) (fun h => nt (gvt h)) ?_
    refine l1 (pk_or rfl rfl rfl) ?_
    refine l1 (asgb rfl) ?_
    refine lnil ?_
    refine nthen ?_
    refine cret ?_
    exact fin1b rfl rfl ((rwider_yes (fun j hj => hI.2 j (by have := df h1; omega))).symm)

theorem fewF_calls (w : World) (F0 : Flt) (hF : FlIn w F0) (hFn : (F0.fn : Int) ≤ 9223372036854775807) : Calls Try.prog 59 #[.agg (encF F0).toArray] w (Ret (.bool (fewF F0)) w) := by
  refine fn_calls (n := 33) Try.func59 rfl rfl (lb rfl) ?_
  refine cseq ?_
  refine creg ?_
  refine lbxa rfl (fun b1 => ?_)
  refine l1 (asgb rfl) ?_
  refine lnil ?_
  refine nthen ?_
  refine cseq ?_
  refine creg ?_
  refine l1 (asg rfl) ?_
  refine lnil ?_
  refine nthen ?_
  refine cseq ?_
  refine cseq ?_
  refine creg ?_
  refine l1 (asg rfl) ?_
  refine lnil ?_
  refine nthen ?_
  refine cblock ?_
  refine cloopI (σ := Nat) (fun s => [(1, .pointer (some ⟨b1, 0, none⟩)), (3, .int .i64 (sumT F0 s)), (4, .int .i64 (s : Int))]) (fun s => [⟨b1, encF F0, 96⟩]) (fun s => s ≤ F0.fn ∧ s ≤ 100) (fun s => F0.fn - s) 0 ⟨Nat.zero_le _, by omega⟩ ⟨rfl, rfl, rfl, trivial⟩ (List.Sublist.refl _) ?_
  rintro k j ⟨hk, hk1⟩
  show WC _ _ _ ([⟨b1, encF F0, 96⟩]) _ _ (over j [(1, .pointer (some ⟨b1, 0, none⟩)), (3, .int .i64 (sumT F0 k)), (4, .int .i64 (k : Int))])
  replace hk : k ≤ F0.fn := hk; replace hk1 : k ≤ 100 := hk1; have hsm := sumT_le F0 k
  refine cseq ?_
  refine cseq ?_
  refine creg ?_
  refine l1 (mvi rfl) ?_
  refine l1 (fa fa96_1 rfl) ?_
  refine l1 (ldc 0 Try.isAgg75 rfl rfl rfl) ?_
  refine l1 (lens sl75 rfl rfl) ?_
  refine l1 (lss rfl rfl) ?_
  refine l1 (mvb rfl) ?_
  refine l1g rfl (gwt rfl) (fun h => mvi rfl) ?_
  refine l1g rfl (gwt rfl) (fun h => lss (gvt h) rfl) ?_
  refine l1 (pk_and rfl rfl rfl) ?_
  refine lnil ?_
  refine nthen ?_
  refine cif rfl (fun h1 => ?_) (fun h1 => ?_)
  · have hlt : k < F0.fn ∧ k < 100 := by (simp at h1; omega)
    obtain ⟨b, o, hp, hbl, hm⟩ := hF.at hlt.1
    refine cskip ?_
    refine nthen ?_
    refine cseq ?_
    refine cblock ?_
    refine creg ?_
    refine l1 (mvi rfl) ?_
    refine l1 (fa fa96_1 rfl) ?_
    refine l1 (ldc 0 Try.isAgg75 rfl rfl rfl) ?_
    refine l1 (mvi rfl) ?_
    refine l1 (isp sl75 hp rfl rfl (by omega) (by omega)) ?_
    refine l1 (ldm (v := .string (F0.tag k)) Try.isAgg9 rfl (fun w' hw => ((hm k hlt.1).kept hw.below hbl).c0)) ?_
    refine l1 (lenstr Try.underlying9 rfl rfl) ?_
    refine l1 (min2 rfl rfl) ?_
    refine l1 (addn rfl rfl (ri (by omega) (by omega))) ?_
    refine l1 (asg rfl) ?_
    refine lnil ?_
    refine nblkN ?_
    refine nthen ?_
    refine creg ?_
    refine l1 (mvi rfl) ?_
    first | refine l1 (addn rfl rfl (ri (by omega) (by omega))) ?_ | refine l1 (add rfl rfl) ?_
    refine l1 (asg rfl) ?_
    refine lnil ?_
    exact nI (k + 1) ⟨by omega, by omega⟩ (by show F0.fn - (k + 1) < F0.fn - k; omega) ⟨rfl, rfl, rfl, trivial⟩ (List.Sublist.refl _)
  · have hke : k = min F0.fn 100 := by (simp at h1; omega)
    refine cexit ?_
    refine nthenE ?_
    refine nIE ?_
    refine nblkE ?_
    refine nthen ?_
    refine cseq ?_
    refine creg ?_
    refine l1 (fa fa96_1 rfl) ?_
    refine l1 (ldc 0 Try.isAgg75 rfl rfl rfl) ?_
    refine l1 (lens sl75 rfl rfl) ?_
    refine l1 (leq rfl rfl) ?_
    refine l1 (mvb rfl) ?_
    refine l1g rfl (gwt rfl) (fun h => mvi rfl) ?_
    refine l1g rfl (gwt rfl) (fun h => leq (gvt h) rfl) ?_
    refine l1 (pk_and rfl rfl rfl) ?_
    refine l1 (asgb rfl) ?_
    refine lnil ?_
    refine nthen ?_
    refine cret ?_
    exact fin1b rfl rfl (by rw [hke]; rfl)

def fA : Flt := ⟨false, none, 2, 2, fun i => bif Nat.beq i 0 then ⟨#[97]⟩ else ⟨#[99]⟩⟩
def tB : Nat → ByteArray := fun i => bif Nat.beq i 0 then ⟨#[98]⟩ else ⟨#[99]⟩
theorem bs75_2 (x y : ByteArray) : ∀ w : World, (Instr.buildSlice 75 2 #[(0, .string x), (1, .string y)]).run Try.prog w = .ok (.slice (some ⟨w.heap.size, 0, none⟩) 2 2) (w.alloc (.cells [.string x, .string y].toArray 9)) := fun w => by kernel_rfl
theorem bk96t (p : Option Addr) (n c : Nat) : ∀ w, (Instr.build 96 #[(1, .slice p n c)]).run Try.prog w = .ok (.agg [.bool false, .slice p n c].toArray) w := fun w => by kernel_rfl
theorem bk96a : ∀ w, (Instr.build 96 #[(0, .bool true)]).run Try.prog w = .ok (.agg (encF (fz true)).toArray) w := fun w => by kernel_rfl
theorem bk96z : ∀ w, (Instr.build 96 #[]).run Try.prog w = .ok (.agg (encF (fz false)).toArray) w := fun w => by kernel_rfl
def iB (p : Option Addr) : It := ⟨fun _ => 0, hz, true, true, ByteArray.empty, p, 2, 2, tB, ByteArray.empty⟩
theorem bk83w (p : Option Addr) : ∀ w, (Instr.build 83 #[(3, .bool true), (2, .bool true), (5, .slice p 2 2)]).run Try.prog w = .ok (.agg (encI (iB p)).toArray) w := fun w => by kernel_rfl
def fAp (p : Option Addr) : Flt := { fA with fp := p }
theorem two_at {w0 w : World} {H : List Ent} {i b : Nat} {t : Nat → ByteArray} (hw : Sat w0 H w) (hi : H[i]? = some ⟨b, [.string (t 0), .string (t 1)], 9⟩) : Sl w (some ⟨b, 0, none⟩) 2 1 (fun i => encT (t i)) :=
  SlIn.sl (.inr ⟨_, List.mem_of_getElem? hi, rfl, fun k hk j v hv => by
    match k, j with
    | 0, 0 => exact hv
    | 1, 0 => exact hv
    | k + 2, _ => omega
    | _, j + 1 => cases hv⟩) hw
theorem shows_AB (p q : Option Addr) : showsB (fAp p) (iB q) = true := by
  have h : hasT 2 fA.tag (tB 1) = true := List.any_eq_true.2 ⟨1, by simp, by show (tB 1).toList == (fA.tag 1).toList; exact beq_self_eq_true _⟩
  show (bif !true || !true then false else (false || (List.range 2).any fun k => hasT 2 fA.tag (tB k))) = true
  exact List.any_eq_true.2 ⟨1, by simp, h⟩

theorem awake19_calls (w : World) : Calls Try.prog 57 #[] w (Ret (.bool true) w) := by
  refine fn_calls (n := 6) Try.func57 rfl rfl (lb rfl) ?_
  refine cseq ?_
  refine creg ?_
  refine l1 (asgb rfl) ?_
  refine lnil ?_
  refine nthen ?_
  refine cseq ?_
  refine creg ?_
  refine lbs Try.underlying75 rfl (bs75_2 ⟨#[97]⟩ ⟨#[99]⟩) (fun b1 => ?_)
  refine l1 (bldk (zs := encF (fAp (some ⟨b1, 0, none⟩))) rfl (bk96t _ _ _)) ?_
  refine lbs Try.underlying75 rfl (bs75_2 ⟨#[98]⟩ ⟨#[99]⟩) (fun b2 => ?_)
  refine l1 (bldk (zs := encI (iB (some ⟨b2, 0, none⟩))) rfl (bk83w _)) ?_
  refine l1 (cl hb61 rfl (mc rfl (mc rfl mn)) (fun w hw => (by have hh := shows_calls w (fAp (some ⟨b1, 0, none⟩)) (two_at (t := fA.tag) hw (i := 0) rfl) (by show 2 ≤ 100; decide) (iB (some ⟨b2, 0, none⟩)) ⟨⟨.inl rfl⟩, two_at (t := tB) hw (i := 1) rfl⟩ (by show 2 ≤ 100; decide); rw [shows_AB] at hh; exact hh))) ?_
  refine l1 (asgb rfl) ?_
  refine lnil ?_
  refine nthen ?_
  refine cret ?_
  exact fin1 rfl rfl
end Go.Proofs.Ytkdbjhlkahkobaa
/- items deleted in place: plain laws (after those for rows) -/
namespace Go.Proofs.Ytkdbjhlkahkobaa
open Jal Go.RowKit
set_option maxRecDepth 100000
structure DelInvI (q : It → Bool) (L : List It) (j i : Nat) (P : List It) : Prop where
  len : P.length = L.length
  ij : i < j
  jn : j ≤ L.length
  head : P.take i = (L.take j).filter q
  tail : P.drop j = L.drop j
theorem take_filter_allI {q : It → Bool} {L : List It} {i : Nat} (h : ∀ k, k < i → ∀ r, L[k]? = some r → q r = true) : (L.take i).filter q = L.take i := by
  refine List.filter_eq_self.2 fun r hr => ?_
  obtain ⟨k, hk⟩ := List.getElem?_of_mem hr
  rw [List.getElem?_take] at hk
  split at hk
  · rename_i hlt; exact h k hlt r hk
  · cases hk
theorem take_succI {L : List It} {j : Nat} (h : j < L.length) : L.take (j + 1) = L.take j ++ [L.getD j iz] := by
  rw [List.take_add_one, getD_getI h]; rfl
theorem DelInvI.start {q : It → Bool} {L : List It} {i : Nat} (hi : i < L.length) (h : ∀ k, k < i → ∀ r, L[k]? = some r → q r = true) (hq : q (L.getD i iz) = false) : DelInvI q L (i + 1) i L := by
  refine ⟨rfl, by omega, by omega, ?_, rfl⟩
  rw [take_succI hi, List.filter_append, take_filter_allI h, List.filter_cons, hq, List.filter_nil]
  exact (List.append_nil _).symm
theorem DelInvI.skip {q : It → Bool} {L P : List It} {i j : Nat} (h : DelInvI q L j i P) (hj : j < L.length) (hq : q (L.getD j iz) = false) : DelInvI q L (j + 1) i P := by
  refine ⟨h.len, by have := h.ij; omega, by omega, ?_, ?_⟩
  · rw [take_succI hj, List.filter_append, ← h.head, List.filter_cons, hq, List.filter_nil]
    exact (List.append_nil _).symm
  · rw [← List.drop_drop, h.tail, List.drop_drop]
theorem DelInvI.keep {q : It → Bool} {L P : List It} {i j : Nat} (h : DelInvI q L j i P) (hj : j < L.length) (hq : q (L.getD j iz) = true) : DelInvI q L (j + 1) (i + 1) (P.set i (L.getD j iz)) := by
  have hij := h.ij
  have hl := h.len
  refine ⟨by rw [List.length_set]; exact hl, by omega, by omega, ?_, ?_⟩
  · rw [take_succI hj, List.filter_append, ← h.head]
    have : (P.set i (L.getD j iz)).take (i + 1) = P.take i ++ [L.getD j iz] := by
      rw [List.take_add_one, List.getElem?_set_self (by omega), List.take_set_of_le (by omega)]
      rfl
    rw [this, List.filter_cons, hq, List.filter_nil]; rfl
  · rw [List.drop_set_of_lt (by omega), ← List.drop_drop, h.tail, List.drop_drop]
theorem DelInvI.get {q : It → Bool} {L P : List It} {i j : Nat} (h : DelInvI q L j i P) (hj : j < L.length) : P.getD j iz = L.getD j iz := by
  have h1 : (P.drop j)[0]? = (L.drop j)[0]? := by rw [h.tail]
  rw [List.getElem?_drop, List.getElem?_drop] at h1
  rw [List.getD_eq_getElem?_getD, List.getD_eq_getElem?_getD]
  simpa using congrArg (·.getD iz) h1
theorem DelInvI.done {q : It → Bool} {L P : List It} {i : Nat} (h : DelInvI q L L.length i P) : P.take i = L.filter q ∧ i = (L.filter q).length := by
  have h1 := h.head
  rw [List.take_length] at h1
  refine ⟨h1, ?_⟩
  rw [← h1, List.length_take]
  have := h.ij; have := h.len
  omega
theorem DelInvI.done' {q : It → Bool} {L P : List It} {i j : Nat} (h : DelInvI q L j i P) (hj : j = L.length) : P.take i = L.filter q ∧ i = (L.filter q).length := by
  subst hj; exact h.done
theorem drop_consI {P : List It} {j : Nat} (hj : j < P.length) : P.drop j = P.getD j iz :: P.drop (j + 1) := by
  rw [List.drop_eq_getElem_cons hj, List.getD_eq_getElem?_getD, List.getElem?_eq_getElem hj]; rfl
theorem itms_read {P : List It} {R : List Value} {j : Nat} {x : It} (hj : j < P.length) (hx : P.getD j iz = x) : ((P.flatMap encI ++ R).drop (0 + j * 146)).take 146 = encI x := by
  rw [Nat.zero_add, flat_drop encI_len P R (Nat.le_of_lt hj), drop_consI hj, List.flatMap_cons, List.append_assoc, hx, List.take_left' (encI_len x)]
theorem itms_write {P : List It} {R : List Value} {i : Nat} {x : It} (hi : i < P.length) : (P.flatMap encI ++ R).take (0 + i * 146) ++ encI x ++ (P.flatMap encI ++ R).drop (0 + i * 146 + (encI x).length) = (P.set i x).flatMap encI ++ R := by
  rw [encI_len, Nat.zero_add, show i * 146 + 146 = (i + 1) * 146 by omega, flat_take encI_len P R (Nat.le_of_lt hi), flat_drop encI_len P R (j := i + 1) (by omega), List.set_eq_take_append_cons_drop, if_pos hi]
  simp [List.flatMap_append, List.append_assoc]
theorem itms_len (P : List It) (R : List Value) : (P.flatMap encI ++ R).length = P.length * 146 + R.length := by rw [List.length_append, flatM_len encI_len]
def zitms (m : Nat) : List Value := (Builtin.zeroCells (encI iz).toArray m).toList
theorem zitms_len (m : Nat) : (zitms m).length = m * 146 := by
  unfold zitms
  rw [Array.length_toList, size_zeroCells]; rfl
theorem zitms_one (m : Nat) : ∀ v ∈ zitms m, v.oneCell' = true := by
  intro v hv
  unfold zitms Builtin.zeroCells at hv
  rw [Array.toList_map] at hv
  obtain ⟨i, _, rfl⟩ := List.mem_map.1 hv
  have h : i % (encI iz).toArray.size < (encI iz).toArray.size := Nat.mod_lt _ (by decide)
  rw [getElem!_pos (encI iz).toArray _ h]
  exact encI_one iz _ (by rw [List.getElem_toArray]; exact List.getElem_mem _)
theorem zitms_is (m : Nat) : ∀ z : Value, (∃ i, Try.prog.info? 83 = some i ∧ i.zero = some z) → (Builtin.zeroCells z.cells m).toList = zitms m := by
  rintro z ⟨i, h1, h2⟩
  obtain ⟨i', h1', h2', _⟩ := info_parts (P := Try.prog) (e := 83) (z := .agg (encI iz).toArray) (size := 146) (bytes := 312) (by kernel_rfl)
  rw [h1] at h1'
  cases h1'
  rw [h2] at h2'
  cases h2'
  rfl
theorem itms_cleared {P : List It} {R : List Value} {n i cap g : Nat} (hP : P.length = n) (hi : i < n) (hn : n ≤ cap) (hc : cap ≤ maxLen) (hR : n * 146 + R.length = cap * 146) :
    OwnL 83 146 (.slice (some ⟨g, 0, none⟩) i cap) i ((P.take i).flatMap encI) [⟨g, (P.flatMap encI ++ R).take (0 + i * 146) ++ zitms (n - i) ++ (P.flatMap encI ++ R).drop (0 + i * 146 + (zitms (n - i)).length), 83⟩] := by
  have hil : i ≤ P.length := by omega
  have h1 : ((P.take i).flatMap encI).length = i * 146 := by rw [flatM_len encI_len, List.length_take, Nat.min_eq_left hil]
  refine ⟨h1, .inr ⟨g, cap, _, rfl, rfl, by omega, hc, ?_, ?_⟩⟩
  · rw [Nat.zero_add, flat_take encI_len P R hil, zitms_len, List.length_append, List.length_append, h1, zitms_len, List.length_drop, itms_len, hP]
    omega
  · rw [Nat.zero_add, flat_take encI_len P R hil, List.append_assoc, ← h1, List.take_left' rfl]
/-- of those that are shown, the place of one -/
theorem filter_at (q : It → Bool) : ∀ (L : List It) (i : Nat), i < L.length → q (L.getD i iz) = true → (L.filter q)[((L.take i).filter q).length]? = some (L.getD i iz)
  | [], _, h, _ => absurd h (Nat.not_lt_zero _)
  | a :: L, 0, _, h => by
    have h' : q a = true := h
    show (List.filter q (a :: L))[0]? = some a
    rw [List.filter_cons, h']; rfl
  | a :: L, i + 1, hi, h => by
    have ih := filter_at q L i (by simpa using hi) (by simpa using h)
    rw [List.take_succ_cons, List.filter_cons, List.filter_cons]
    cases hq : q a with
    | true => simpa using ih
    | false => simpa using ih
theorem filter_le (q : It → Bool) (L : List It) (i : Nat) : ((L.take i).filter q).length ≤ (L.filter q).length := by
  have h : L.filter q = (L.take i).filter q ++ (L.drop i).filter q := by rw [← List.filter_append, List.take_append_drop]
  rw [h, List.length_append]; omega
end Go.Proofs.Ytkdbjhlkahkobaa
/- walks, printed by a program of ours -/
namespace Go.Proofs.Ytkdbjhlkahkobaa
open Jal Go.RowKit
set_option maxRecDepth 100000
def PredI (w : World) (f : FuncId) (es : List Value) (q : It → Bool) (x : It) : Prop := ∀ w' H, Sat w H w' → Calls Try.prog f (.agg (encI x).toArray :: es).toArray w' (Ret (.bool (q x)) w')

def idxM (q : It → Bool) (l : Nat → It) (n : Nat) : Int := match (List.range n).find? (fun i => q (l i)) with | some i => (i : Int) | none => -1
theorem idxM_yes {q : It → Bool} {l : Nat → It} {n i : Nat} (hi : i < n) (h : q (l i) = true) (hb : ∀ j, j < i → q (l j) = false) : idxM q l n = (i : Int) := by
  unfold idxM
  rw [find_range (p := fun i => q (l i)) hi h hb]
theorem idxM_no {q : It → Bool} {l : Nat → It} {n : Nat} (hb : ∀ j, j < n → q (l j) = false) : idxM q l n = -1 := by
  unfold idxM
  rw [List.find?_range_eq_none.2 (fun j hj => by simpa using hb j hj)]
theorem idxM_case (q : It → Bool) (l : Nat → It) (n : Nat) : (idxM q l n = -1 ∧ ∀ j, j < n → q (l j) = false) ∨ ∃ i : Nat, idxM q l n = (i : Int) ∧ i < n ∧ q (l i) = true ∧ ∀ j, j < i → q (l j) = false := by
  cases h : (List.range n).find? (fun i => q (l i)) with
  | none =>
    refine .inl ⟨by unfold idxM; rw [h], fun j hj => ?_⟩
    have := List.find?_range_eq_none.1 h j hj
    simpa using this
  | some i =>
    have h2 := List.find?_range_eq_some.1 h
    exact .inr ⟨i, by unfold idxM; rw [h], List.mem_range.1 h2.2.1, h2.1, fun j hj => by simpa using h2.2.2 j hj⟩

theorem iidxf_calls (w : World) (p : Option Addr) (n c : Nat) (l : Nat → It) (hn : n ≤ 100) (hl : Sl w p n 146 (fun i => encI (l i))) (f : FuncId) (es : List Value) (q : It → Bool) (hf : HasBody Try.prog f) (hq : ∀ i, i < n → PredI w f es q (l i)) : Calls Try.prog 125 #[.slice p n c, .func (.func f) #[] es.toArray] w (Ret (.int .i64 (idxM q l n)) w) := by
  refine fn_calls (n := 19) Try.func125 rfl rfl (lb rfl) ?_
  refine cseq ?_
  refine creg ?_
  refine l1 (asgi rfl) ?_
  refine lnil ?_
  refine nthen ?_
  refine cseq ?_
  refine cseq ?_
  refine creg ?_
  refine l1 (mvs rfl) ?_
  refine l1 (lens sl90 rfl rfl) ?_
  refine l1 (mvi rfl) ?_
  refine lnil ?_
  refine nthen ?_
  refine cblock ?_
  refine cloopI (σ := Nat) (fun s => [(0, .slice p n c), (1, .func (.func f) #[] es.toArray), (7, .int .i64 (n : Int)), (8, .int .i64 (s : Int))]) (fun s => []) (fun s => s ≤ n ∧ ∀ j, j < s → q (l j) = false) (fun s => n - s) 0 ⟨Nat.zero_le _, fun j hj => by omega⟩ ⟨rfl, rfl, rfl, rfl, trivial⟩ (List.Sublist.refl _) ?_
  rintro i j hI
  show WC _ _ _ ([]) _ _ (over j [(0, .slice p n c), (1, .func (.func f) #[] es.toArray), (7, .int .i64 (n : Int)), (8, .int .i64 (i : Int))])
  replace hI : i ≤ n ∧ ∀ j, j < i → q (l j) = false := hI
  refine cseq ?_
  refine creg ?_
  refine l1 (lss rfl rfl) ?_
  refine lnil ?_
  refine nthen ?_
  refine cseq ?_
  refine cif rfl (fun h1 => ?_) (fun h1 => ?_)
  · have hlt : i < n := by (have := dt h1; omega)
    obtain ⟨b, o, hp, hbl, hm⟩ := hl.at hlt
    refine cskip ?_
    refine nthen ?_
    refine cseq ?_
    refine cblock ?_
    refine cseq ?_
    refine creg ?_
    refine l1 (mvi rfl) ?_
    refine l1 (asgi rfl) ?_
    refine lnil ?_
    refine nthen ?_
    refine cseq ?_
    refine creg ?_
    refine l1 (mvf rfl) ?_
    refine l1 (mvs rfl) ?_
    refine l1 (mvi rfl) ?_
    refine l1 (isp sl90 hp rfl rfl (by omega) (by omega)) ?_
    refine l1 (ldam (vs := encI (l i)) Try.isAgg83 Try.sizeOf83 rfl rfl (fun w' hw => (hm i hlt).kept hw.below hbl)) ?_
    refine l1 (clc hf rfl (mc rfl mn) (fun w' hw => hq i hlt w' _ hw)) ?_
    refine lnil ?_
    refine nthen ?_
    refine cif rfl (fun h2 => ?_) (fun h2 => ?_)
    · skip
      refine cseq ?_
      refine creg ?_
      refine l1 (mvi rfl) ?_
      refine l1 (asgi rfl) ?_
      refine lnil ?_
      refine nthen ?_
      refine cret ?_
      refine nblkR ?_
      refine nthenR ?_
      refine nIR ?_
      refine nblkR ?_
      refine nthenR ?_
      exact fin1i rfl rfl (by rw [idxM_yes hlt h2 hI.2])
    · skip
      refine cskip ?_
      refine nblkN ?_
      refine nthen ?_
      refine creg ?_
      first | refine l1 (addn rfl rfl (ri (by omega) (by omega))) ?_ | refine l1 (add rfl rfl) ?_
      refine l1 (mvi rfl) ?_
      refine lnil ?_
      exact nI (i + 1) ⟨by omega, fun j hj => (Nat.lt_succ_iff_lt_or_eq.1 hj).elim (fun h => hI.2 j h) (fun h => by subst h; exact h2)⟩ (by show n - (i + 1) < n - i; omega) ⟨rfl, rfl, rfl, rfl, trivial⟩ (List.Sublist.refl _)
  · skip
    refine cexit ?_
    refine nthenE ?_
    refine nIE ?_
    refine nblkE ?_
    refine nthen ?_
    refine cseq ?_
    refine creg ?_
    refine l1 (asgi rfl) ?_
    refine lnil ?_
    refine nthen ?_
    refine cret ?_
    exact fin1i rfl rfl (by rw [idxM_no (fun j hj => hI.2 j (by have := df h1; omega))])

theorem rowsL_allI {q : It → Bool} {l : Nat → It} {n : Nat} (hno : ∀ j, j < n → q (l j) = false) : ((rowsL l n).filter (fun r => !q r)) = (rowsL l n) := List.filter_eq_self.2 fun r hr => by
  obtain ⟨j, hj, rfl⟩ := List.mem_map.1 hr
  rw [hno j (List.mem_range.1 hj)]; rfl
theorem rowsL_dI {l : Nat → It} {n j : Nat} (hj : j < n) : (rowsL l n).getD j iz = l j := by
  rw [List.getD_eq_getElem?_getD, rowsL_get hj]; rfl

theorem idelfn_calls (w0 w : World) (T oe : List Ent) (p : Option Addr) (n c : Nat) (l : Nat → It) (hn : n ≤ 100) (hs : Sat w0 (oe ++ T) w) (ho : OwnL 83 146 (.slice p n c) n ((rowsL l n).flatMap encI) oe) (f : FuncId) (es : List Value) (q : It → Bool) (hf : HasBody Try.prog f) (hq : ∀ i, i < n → ∀ w', Sat w0 T w' → Calls Try.prog f (.agg (encI (l i)).toArray :: es).toArray w' (Ret (.bool (q (l i))) w')) (hno : ∀ j, j < n → q (l j) = false) : Calls Try.prog 95 #[.slice p n c, .func (.func f) #[] es.toArray] w (RetS w0 (fun v' H' => ∃ oe', H' = oe' ++ T ∧ OwnL 83 146 v' ((rowsL l n).filter (fun r => !q r)).length (((rowsL l n).filter (fun r => !q r)).flatMap encI) oe')) := by
  refine fn_callsH (n := 42) (H := oe ++ T) hs Try.func95 rfl rfl (lb rfl) ?_
  refine cseq ?_
  refine creg ?_
  refine l1 (asgs rfl) ?_
  refine lnil ?_
  refine nthen ?_
  refine cseq ?_
  refine creg ?_
  refine l1 (mvs rfl) ?_
  refine l1 (mvf rfl) ?_
  refine l1 (cl (v := .int .i64 (-1)) hb125 rfl (mc rfl (mc rfl mn)) (fun w' hw => by (have hidx := iidxf_calls w' p n c l hn (SlIn.sl (ho.slInL (fun a => rfl) (fun i hi => ⟨l i, rowsL_get hi, rfl⟩)) (hw.sub (List.sublist_append_left _ _))) f es q hf (fun i hi w'' H'' hw2 => hq i hi w'' ((hw.join hw2).sub ((List.sublist_append_right _ _).trans (List.sublist_append_left _ _)))); rw [idxM_no hno] at hidx; exact hidx))) ?_
  refine l1 (asgi rfl) ?_
  refine lnil ?_
  refine nthen ?_
  refine cseq ?_
  refine cseq ?_
  refine creg ?_
  refine l1 (mvi rfl) ?_
  refine l1 (eql rfl rfl) ?_
  refine lnil ?_
  refine nthen ?_
  refine cift rfl ?_
  refine cseq ?_
  refine creg ?_
  refine l1 (mvs rfl) ?_
  refine l1 (asgs rfl) ?_
  refine lnil ?_
  refine nthen ?_
  refine cret ?_
  refine nthenR ?_
  exact finS (.slice p n c) (oe ++ T) (rv1 rfl (rvt rfl)) ⟨_, List.Perm.refl _, List.Sublist.refl _⟩ ⟨oe, rfl, by rw [rowsL_allI hno, rowsL_len]; exact ho⟩

set_option maxHeartbeats 1000000 in
theorem idelfp_calls (w0 w : World) (T : List Ent) (g n cap : Nat) (R : List Value) (l : Nat → It) (hn : n ≤ 100) (hs : Sat w0 (⟨g, (rowsL l n).flatMap encI ++ R, 83⟩ :: T) w) (hcap : n ≤ cap) (hcm : cap ≤ maxLen) (hR : n * 146 + R.length = cap * 146) (f : FuncId) (es : List Value) (q : It → Bool) (hf : HasBody Try.prog f) (hq : ∀ i, i < n → ∀ w', Sat w0 T w' → Calls Try.prog f (.agg (encI (l i)).toArray :: es).toArray w' (Ret (.bool (q (l i))) w')) (k0 : Nat) (hk0 : k0 < n) (hx0 : idxM q l n = (k0 : Int)) (hq0 : q (l k0) = true) (hb0 : ∀ j, j < k0 → q (l j) = false) : Calls Try.prog 95 #[.slice (some ⟨g, 0, none⟩) n cap, .func (.func f) #[] es.toArray] w (RetS w0 (fun v' H' => ∃ oe', H' = oe' ++ T ∧ OwnL 83 146 v' ((rowsL l n).filter (fun r => !q r)).length (((rowsL l n).filter (fun r => !q r)).flatMap encI) oe')) := by
  refine fn_callsH (n := 42) (H := ⟨g, (rowsL l n).flatMap encI ++ R, 83⟩ :: T) hs Try.func95 rfl rfl (lb rfl) ?_
  have ho : OwnL 83 146 (.slice (some ⟨g, 0, none⟩) n cap) n ((rowsL l n).flatMap encI) [⟨g, (rowsL l n).flatMap encI ++ R, 83⟩] := ⟨by rw [flatM_len encI_len, rowsL_len], .inr ⟨g, cap, _, rfl, rfl, hcap, hcm, by rw [itms_len, rowsL_len]; exact hR, by rw [flat_take encI_len _ _ (by rw [rowsL_len]; exact Nat.le_refl _), List.take_of_length_le (by rw [rowsL_len]; exact Nat.le_refl _)]⟩⟩
  have hI0 : DelInvI (fun r => !q r) (rowsL l n) (k0 + 1) k0 (rowsL l n) := DelInvI.start (by rw [rowsL_len]; exact hk0) (fun k hk r hr => by rw [rowsL_get (by omega)] at hr; cases hr; rw [hb0 k hk]; rfl) (by rw [rowsL_dI hk0, hq0]; rfl)
  refine cseq ?_
  refine creg ?_
  refine l1 (asgs rfl) ?_
  refine lnil ?_
  refine nthen ?_
  refine cseq ?_
  refine creg ?_
  refine l1 (mvs rfl) ?_
  refine l1 (mvf rfl) ?_
  refine l1 (cl (v := .int .i64 (k0 : Int)) hb125 rfl (mc rfl (mc rfl mn)) (fun w' hw => by (have hidx := iidxf_calls w' (some ⟨g, 0, none⟩) n cap l hn (SlIn.sl (ho.slInL (fun a => rfl) (fun i hi => ⟨l i, rowsL_get hi, rfl⟩)) (hw.sub (List.Sublist.cons_cons _ (List.nil_sublist _)))) f es q hf (fun i hi w'' H'' hw2 => hq i hi w'' ((hw.join hw2).sub ((List.Sublist.cons _ (List.Sublist.refl _)).trans (List.sublist_append_left _ _)))); rw [hx0] at hidx; exact hidx))) ?_
  refine l1 (asgi rfl) ?_
  refine lnil ?_
  refine nthen ?_
  refine cseq ?_
  refine cseq ?_
  refine creg ?_
  refine l1 (mvi rfl) ?_
  refine l1 (eql rfl rfl) ?_
  refine lnil ?_
  refine nthen ?_
  refine ciff (bf rfl (decide_eq_false (by omega))) ?_
  refine cskip ?_
  refine nthen ?_
  refine cseq ?_
  refine cseq ?_
  refine creg ?_
  refine l1 (mvi rfl) ?_
  first | refine l1 (addn rfl rfl (ri (by omega) (by omega))) ?_ | refine l1 (add rfl rfl) ?_
  refine l1 (asgi rfl) ?_
  refine lnil ?_
  refine nthen ?_
  refine cblock ?_
  refine cloopI (σ := Nat × Nat × List It) (fun s => [(0, .slice (some ⟨g, 0, none⟩) n cap), (1, .func (.func f) #[] es.toArray), (5, .int .i64 (s.2.1 : Int)), (6, .int .i64 (s.1 : Int))]) (fun s => ([⟨g, s.2.2.flatMap encI ++ R, 83⟩] ++ (T))) (fun s => DelInvI (fun r => !q r) (rowsL l n) s.1 s.2.1 s.2.2) (fun s => n - s.1) (k0 + 1, k0, (rowsL l n)) hI0 ⟨rfl, rfl, rfl, rfl, trivial⟩ (List.Sublist.refl _) ?_
  rintro ⟨k, i, P⟩ j hI
  show WC _ _ _ (⟨g, P.flatMap encI ++ R, 83⟩ :: (T)) _ _ (over j [(0, .slice (some ⟨g, 0, none⟩) n cap), (1, .func (.func f) #[] es.toArray), (5, .int .i64 (i : Int)), (6, .int .i64 (k : Int))])
  replace hI : DelInvI (fun r => !q r) (rowsL l n) k i P := hI; have hLn : (rowsL l n).length = n := rowsL_len l n; have hP : P.length = n := (by rw [hI.len, hLn]); have hij := hI.ij; have hjn : k ≤ n := (by have := hI.jn; omega)
  refine cseq ?_
  refine cseq ?_
  refine creg ?_
  refine l1 (mvi rfl) ?_
  refine l1 (mvs rfl) ?_
  refine l1 (lens sl90 rfl rfl) ?_
  refine l1 (lss rfl rfl) ?_
  refine lnil ?_
  refine nthen ?_
  refine cif rfl (fun h1 => ?_) (fun h1 => ?_)
  · have hlt : k < n := by (have := dt h1; omega)
    refine cskip ?_
    refine nthen ?_
    refine cseq ?_
    refine cblock ?_
    refine cseq ?_
    refine creg ?_
    refine l1 (mvs rfl) ?_
    refine l1 (mvi rfl) ?_
    refine l1 (isp sl90 rfl rfl rfl (by omega) (by omega)) ?_
    refine l1 (lda 0 Try.isAgg83 Try.sizeOf83 rfl rfl (itms_read (j := k) (x := l k) (by omega) (by rw [hI.get (by omega), rowsL_dI hlt])) rfl) ?_
    refine lal (zs := encI iz) Try.zeroValue83 rfl (fun b1 => ?_)
    refine wl_perm (ins_perm 1 _ _) ?_
    refine lstw 1 rfl rfl rfl Try.sizeOf83 rfl rfl rfl ?_
    refine lnil ?_
    refine nthen ?_
    refine cseq ?_
    refine creg ?_
    refine l1 (mvf rfl) ?_
    refine l1 (ldw 1 Try.isAgg83 Try.sizeOf83 rfl rfl rfl) ?_
    refine l1 (clc hf rfl (mc rfl mn) (fun w' hw => hq k hlt w' (hw.sub (List.Sublist.cons _ (List.Sublist.cons _ (List.Sublist.refl _)))))) ?_
    refine l1 (nt rfl) ?_
    refine lnil ?_
    refine nthen ?_
    refine cif rfl (fun h2 => ?_) (fun h2 => ?_)
    · skip
      refine cseq ?_
      refine creg ?_
      refine l1 (mvs rfl) ?_
      refine l1 (mvi rfl) ?_
      refine l1 (ldw 1 Try.isAgg83 Try.sizeOf83 rfl rfl rfl) ?_
      refine l1 (isp sl90 rfl rfl rfl (by omega) (by omega)) ?_
      refine lst 0 rfl rfl rfl rfl Try.sizeOf83 rfl (by rw [itms_len, encI_len]; omega) (encI_one (l k)) (itms_write (by omega)) ?_
      refine lnil ?_
      refine nthen ?_
      refine creg ?_
      refine l1 (mvi rfl) ?_
      first | refine l1 (addn rfl rfl (ri (by omega) (by omega))) ?_ | refine l1 (add rfl rfl) ?_
      refine l1 (asgi rfl) ?_
      refine lnil ?_
      refine nblkN ?_
      refine nthen ?_
      refine creg ?_
      refine l1 (mvi rfl) ?_
      first | refine l1 (addn rfl rfl (ri (by omega) (by omega))) ?_ | refine l1 (add rfl rfl) ?_
      refine l1 (asgi rfl) ?_
      refine lnil ?_
      first | exact nI (k + 1, i + 1, P.set i (l k)) (by have := hI.keep (by omega) (by rw [rowsL_dI hlt]; exact h2); rwa [rowsL_dI hlt] at this) (by show n - (k + 1) < n - k; omega) ⟨rfl, rfl, rfl, rfl, trivial⟩ (List.Sublist.cons_cons _ (List.Sublist.cons _ (List.Sublist.refl _))) | exact nI (k + 1, i, P) (hI.skip (by omega) (by rw [rowsL_dI hlt]; exact h2)) (by show n - (k + 1) < n - k; omega) ⟨rfl, rfl, rfl, rfl, trivial⟩ (List.Sublist.cons_cons _ (List.Sublist.cons _ (List.Sublist.refl _)))
    · skip
      refine cskip ?_
      refine nblkN ?_
      refine nthen ?_
      refine creg ?_
      refine l1 (mvi rfl) ?_
      first | refine l1 (addn rfl rfl (ri (by omega) (by omega))) ?_ | refine l1 (add rfl rfl) ?_
      refine l1 (asgi rfl) ?_
      refine lnil ?_
      first | exact nI (k + 1, i + 1, P.set i (l k)) (by have := hI.keep (by omega) (by rw [rowsL_dI hlt]; exact h2); rwa [rowsL_dI hlt] at this) (by show n - (k + 1) < n - k; omega) ⟨rfl, rfl, rfl, rfl, trivial⟩ (List.Sublist.cons_cons _ (List.Sublist.cons _ (List.Sublist.refl _))) | exact nI (k + 1, i, P) (hI.skip (by omega) (by rw [rowsL_dI hlt]; exact h2)) (by show n - (k + 1) < n - k; omega) ⟨rfl, rfl, rfl, rfl, trivial⟩ (List.Sublist.cons_cons _ (List.Sublist.cons _ (List.Sublist.refl _)))
  · have hje : k = n := by (have := df h1; omega)
    refine cexit ?_
    refine nthenE ?_
    refine nIE ?_
    refine nblkE ?_
    refine nthen ?_
    refine cseq ?_
    refine creg ?_
    refine l1 (mvs rfl) ?_
    refine l1 (mvi rfl) ?_
    refine l1 (sllo Try.underlying90 Try.sizeOf83 rfl rfl (by omega) (by omega)) ?_
    refine lclear 0 el90 rfl rfl (by omega) (zitms_is (n - i)) (zitms_len (n - i)) (zitms_one (n - i)) (by rw [zitms_len, itms_len]; omega) rfl ?_
    refine lnil ?_
    refine nthen ?_
    refine cseq ?_
    refine creg ?_
    refine l1 (mvs rfl) ?_
    refine l1 (mvi rfl) ?_
    refine l1 (slhi Try.underlying90 Try.sizeOf83 rfl rfl (by omega) (.inr ⟨g, 0, rfl⟩)) ?_
    refine l1 (asgs rfl) ?_
    refine lnil ?_
    refine nthen ?_
    refine cret ?_
    exact finS (.slice (some ⟨g, 0, none⟩) i cap) _ (rv1 rfl (rvt rfl)) ⟨_, List.Perm.refl _, List.Sublist.refl _⟩ ⟨_, rfl, by (have hd := hI.done' (by omega); rw [← hd.2, ← hd.1]; exact itms_cleared hP (by omega) hcap hcm hR)⟩

theorem idelf_calls (w0 w : World) (T oe : List Ent) (v : Value) (n : Nat) (l : Nat → It) (hn : n ≤ 100) (hs : Sat w0 (oe ++ T) w) (ho : OwnL 83 146 v n ((rowsL l n).flatMap encI) oe) (f : FuncId) (es : List Value) (q : It → Bool) (hf : HasBody Try.prog f) (hq : ∀ i, i < n → ∀ w', Sat w0 T w' → Calls Try.prog f (.agg (encI (l i)).toArray :: es).toArray w' (Ret (.bool (q (l i))) w')) : Calls Try.prog 95 #[v, .func (.func f) #[] es.toArray] w (RetS w0 (fun v' H' => ∃ oe', H' = oe' ++ T ∧ OwnL 83 146 v' ((rowsL l n).filter (fun r => !q r)).length (((rowsL l n).filter (fun r => !q r)).flatMap encI) oe')) := by
  obtain ⟨p, c, rfl⟩ := ho.form
  rcases idxM_case q l n with ⟨_, hno⟩ | ⟨k0, hx0, hk0, hq0, hb0⟩
  · exact idelfn_calls w0 w T oe p n c l hn hs ho f es q hf hq hno
  · rcases ho.2 with ⟨_, h0, _⟩ | ⟨g, cap, cur, h1, rfl, hcap, hcm, hcl, hct⟩
    · omega
    · cases h1
      have hcur : cur = (rowsL l n).flatMap encI ++ cur.drop (n * 146) := by rw [← hct, List.take_append_drop]
      rw [hcur] at hs
      exact idelfp_calls w0 w T g n c (cur.drop (n * 146)) l hn hs hcap hcm (by have : n * 146 ≤ c * 146 := Nat.mul_le_mul_right _ hcap; rw [List.length_drop, hcl]; omega) f es q hf hq k0 hk0 hx0 hq0 hb0

theorem flt_mem {w : World} {b : Nat} {f : Flt} (h : FltAt w b f) : Mem w ⟨b, 0, none⟩ (encF f) := fun j v hv => by
  match j with
  | 0 => rw [Addr.add_off]; have h2 : some (Value.bool f.all) = some v := hv; rw [← h2]; exact h.a
  | 1 => rw [Addr.add_off]; have h2 : some (Value.slice f.fp f.fn f.fc) = some v := hv; rw [← h2]; exact h.t
  | j + 2 => cases hv

theorem notsh_calls (F0 : Flt) (b : Nat) (i : It) (w : World) (hF : FltAt w b F0) (hi : ItSat w i) (hg : i.gn ≤ 100) : Calls Try.prog 96 #[.agg (encI i).toArray, .pointer (some ⟨b, 0, none⟩)] w (Ret (.bool (!showsB F0 i)) w) := by
  refine fn_calls (n := 8) Try.func96 rfl rfl (lb rfl) ?_
  refine cseq ?_
  refine creg ?_
  refine lbxa rfl (fun b1 => ?_)
  refine l1 (asgb rfl) ?_
  refine lnil ?_
  refine nthen ?_
  refine cseq ?_
  refine creg ?_
  refine l1 (ldam (vs := encF F0) Try.isAgg96 Try.sizeOf96 rfl rfl (fun w' hw => flt_mem (hF.kept hw))) ?_
  refine l1 (ldw 0 Try.isAgg83 Try.sizeOf83 rfl rfl rfl) ?_
  refine l1 (cl hb61 rfl (mc rfl (mc rfl mn)) (fun w hw => shows_calls w F0 (Sl.keptS hF.h hw) hF.n i (hi.keptS hw) hg)) ?_
  refine l1 (nt rfl) ?_
  refine l1 (asgb rfl) ?_
  refine lnil ?_
  refine nthen ?_
  refine cret ?_
  exact fin1 rfl rfl

theorem getL_itms (L : List It) : rowsL (fun i => L.getD i iz) L.length = L := by
  apply List.ext_getElem?
  intro i
  unfold rowsL
  rw [List.getElem?_map]
  by_cases hi : i < L.length
  · rw [List.getElem?_range hi, getD_getI hi]; rfl
  · rw [List.getElem?_eq_none (by rw [List.length_range]; omega), List.getElem?_eq_none (by omega)]; rfl
theorem notnot_filter (F0 : Flt) (L : List It) : L.filter (fun r => !!showsB F0 r) = L.filter (showsB F0) := by
  congr 1
  funext r
  exact Bool.not_not _
/-- what showing gives: of one folding, those that are shown -/
def ShownR (F0 : Flt) (C : List Rw) (w : World) : Ending → World → Prop := RetM (fun v Hn => ∃ L oe tl, Hn = oe ++ tl ∧ OwnL 83 146 v (L.filter (showsB F0)).length ((L.filter (showsB F0)).flatMap encI) oe ∧ (∀ i ∈ L, ItIn tl i) ∧ (L.map coreI).Perm (foldP C) ∧ SortedI L) w

set_option maxHeartbeats 1000000 in
theorem shown_calls (w : World) (F0 : Flt) (hF : FlIn w F0) (hFn : F0.fn ≤ 100) (p : Option Addr) (n c : Nat) (l : Nat → Rw) (hn : n ≤ 100) (hl : Sl w p n 130 (fun i => encR (l i))) (hx : ∀ i, i < n → RwIn w (l i)) (kx : ∀ i, i < n → RwOk (l i)) (fx : ∀ i, i < n → (l i).hd.tn ≤ 20 ∧ (l i).ch.gn ≤ 20) : Calls Try.prog 58 #[.agg (encF F0).toArray, .slice p n c] w (ShownR F0 (counted l n) w) := by
  refine fn_calls (n := 9) Try.func58 rfl rfl (lb rfl) ?_
  refine cseq ?_
  refine creg ?_
  refine lbxa rfl (fun b1 => ?_)
  refine l1 (asg rfl) ?_
  refine lnil ?_
  refine nthen ?_
  refine cseq ?_
  refine creg ?_
  refine l1 (mvs rfl) ?_
  refine lclm hb56 rfl (mc rfl mn) (fun w' hw => fold_calls w' p n c l hn (Sl.keptS hl hw) (fun i hi => (hx i hi).keptS hw) kx fx) ?_
  rintro v6 H6 ⟨L, oe, tl, rfl, hF6⟩
  have hgn := fold_gn (m := 20) hF6.perm (cnt_gn (fun i hi => (fx i hi).2))
  have hll := fold_len hF6.perm
  have hcl := counted_len l n
  refine l1 (mkf1 rfl) ?_
  refine lcls (oe ++ (⟨b1, encF F0, 96⟩ :: tl)) hb95 rfl (mc rfl (mc rfl mn)) (fun w' hw => idelf_calls w w' (⟨b1, encF F0, 96⟩ :: tl) oe v6 L.length (fun i => L.getD i iz) (by omega) hw (by rw [getL_itms]; exact hF6.own) 96 [.pointer (some ⟨b1, 0, none⟩)] (fun i => !showsB F0 i) hb96 (fun i hi w2 hw2 => notsh_calls F0 b1 (L.getD i iz) w2 (FltAt.own (i := 0) hw2 rfl hF hFn) ((hF6.mem _ (getD_memI hi)).sat (hw2.sub (List.Sublist.cons _ (List.Sublist.refl _)))) (by have := hgn _ (getD_memI hi); omega))) ⟨⟨b1, encF F0, 96⟩ :: (oe ++ tl), List.perm_middle.symm, List.Sublist.refl _⟩ ?_
  rintro v8 H8 ⟨oe2, rfl, hown8⟩
  rw [getL_itms] at hown8
  refine l1 (asg rfl) ?_
  refine lnil ?_
  refine nthen ?_
  refine cret ?_
  exact finM v8 (oe2 ++ tl) (rv1 rfl (rvt rfl)) ⟨_, List.Perm.refl _, List.Sublist.append (List.Sublist.refl _) (List.Sublist.cons _ (List.Sublist.refl _))⟩ ⟨L, oe2, tl, rfl, by rw [notnot_filter] at hown8; exact hown8, hF6.mem, hF6.perm, hF6.srt⟩
end Go.Proofs.Ytkdbjhlkahkobaa
/- what filters show; tokens in order: plain laws -/
namespace Go.Proofs.Ytkdbjhlkahkobaa
open Jal Go.RowKit
set_option maxRecDepth 100000
/-! ### items of two foldings, and of the reference -/
theorem map_nrm {L1 L2 : List It} (h : (L1.map coreI).map nrmI = (L2.map coreI).map nrmI) {i : Nat} (hi : i < L1.length) : nrmI (coreI (L1.getD i iz)) = nrmI (coreI (L2.getD i iz)) := by
  have hl := (map_same h).1
  have h1 : ((L1.map coreI).map nrmI)[i]? = ((L2.map coreI).map nrmI)[i]? := by rw [h]
  rw [List.getElem?_map, List.getElem?_map, List.getElem?_map, List.getElem?_map, List.getElem?_eq_getElem hi, List.getElem?_eq_getElem (show i < L2.length by omega)] at h1
  rw [List.getD_eq_getElem?_getD, List.getD_eq_getElem?_getD, List.getElem?_eq_getElem hi, List.getElem?_eq_getElem (show i < L2.length by omega)]
  simpa using h1
theorem take_succI' {L : List It} {j : Nat} (h : j < L.length) : L.take (j + 1) = L.take j ++ [L.getD j iz] := by
  rw [List.take_add_one, getD_getI h]; rfl
theorem cnt_t {q : It → Bool} {L : List It} {i : Nat} (hi : i < L.length) (h : q (L.getD i iz) = true) : ((L.take (i + 1)).filter q).length = ((L.take i).filter q).length + 1 := by
  rw [take_succI' hi, List.filter_append, List.length_append, List.filter_cons, h]; rfl
theorem cnt_f {q : It → Bool} {L : List It} {i : Nat} (hi : i < L.length) (h : q (L.getD i iz) = false) : ((L.take (i + 1)).filter q).length = ((L.take i).filter q).length := by
  rw [take_succI' hi, List.filter_append, List.length_append, List.filter_cons, h]; rfl
theorem at_lt {q : It → Bool} {L : List It} {i : Nat} (hi : i < L.length) (h : q (L.getD i iz) = true) : ((L.take i).filter q).length < (L.filter q).length ∧ (L.filter q).getD ((L.take i).filter q).length iz = L.getD i iz := by
  have h1 := filter_at q L i hi h
  refine ⟨(List.getElem?_eq_some_iff.1 h1).1, ?_⟩
  rw [List.getD_eq_getElem?_getD, h1]; rfl
theorem cnt_end (q : It → Bool) (L : List It) {i : Nat} (h : L.length ≤ i) : (L.take i).filter q = L.filter q := by rw [List.take_of_length_le h]
def anyR2 (p : Nat → Bool) : Nat → Bool
  | 0 => false
  | k + 1 => anyR2 p k || p k
theorem anyR2_yes {p : Nat → Bool} {q : Nat} (h : p q = true) : ∀ {k : Nat}, q < k → anyR2 p k = true
  | k + 1, hk => by
    show (anyR2 p k || p k) = true
    by_cases h1 : q = k
    · subst h1; rw [h, Bool.or_true]
    · rw [anyR2_yes h (show q < k by omega)]; rfl
/-! ### tokens, as the reference finds them -/
def tkr (C : List Rw) (j : Nat) : Nat → Int := (C.getD j rz).hd.item
def inT (O : List (Nat → Int)) (t : Nat → Int) : Bool := (List.range O.length).any fun i => eqA 16 (O.getD i (fun _ => 0)) t
theorem inT_iff {O : List (Nat → Int)} {t : Nat → Int} : inT O t = true ↔ ∃ s ∈ O, eqA 16 s t = true := by
  unfold inT
  rw [List.any_eq_true]
  constructor
  · rintro ⟨i, h1, h2⟩
    have hi := List.mem_range.1 h1
    refine ⟨O.getD i (fun _ => 0), ?_, h2⟩
    rw [List.getD_eq_getElem?_getD, List.getElem?_eq_getElem hi]; exact List.getElem_mem hi
  · rintro ⟨s, h1, h2⟩
    obtain ⟨i, hi⟩ := List.getElem?_of_mem h1
    refine ⟨i, List.mem_range.2 (List.getElem?_eq_some_iff.1 hi).1, ?_⟩
    rw [List.getD_eq_getElem?_getD, hi]; exact h2
theorem inT_yes {O : List (Nat → Int)} {t : Nat → Int} {i : Nat} (hi : i < O.length) (h : eqA 16 (O.getD i (fun _ => 0)) t = true) : inT O t = true := List.any_eq_true.2 ⟨i, List.mem_range.2 hi, h⟩
theorem inT_no {O : List (Nat → Int)} {t : Nat → Int} (h : ∀ j, j < O.length → eqA 16 (O.getD j (fun _ => 0)) t = false) : inT O t = false := by
  unfold inT
  rw [List.any_eq_false]
  intro j hj
  rw [h j (List.mem_range.1 hj)]; simp
/-- is the k-th row's token the best so far? -/
def candB (C : List Rw) (O : List (Nat → Int)) (best : Int) (k : Nat) : Bool := !inT O (tkr C k) && (decide (best < 0) || lessT (tkr C k) (tkr C best.toNat))
def bestI (C : List Rw) (O : List (Nat → Int)) : Nat → Int
  | 0 => -1
  | k + 1 => bif candB C O (bestI C O k) k then (k : Int) else bestI C O k
theorem best_t {C : List Rw} {O : List (Nat → Int)} {k : Nat} (h : candB C O (bestI C O k) k = true) : bestI C O (k + 1) = (k : Int) := by unfold bestI; rw [h]; rfl
theorem best_f {C : List Rw} {O : List (Nat → Int)} {k : Nat} (h : candB C O (bestI C O k) k = false) : bestI C O (k + 1) = bestI C O k := by
  show (bif candB C O (bestI C O k) k then (k : Int) else bestI C O k) = _
  rw [h]; rfl
theorem best_rng (C : List Rw) (O : List (Nat → Int)) : ∀ k, bestI C O k = -1 ∨ (0 ≤ bestI C O k ∧ bestI C O k < k)
  | 0 => .inl rfl
  | k + 1 => by
    cases h : candB C O (bestI C O k) k with
    | true => rw [best_t h]; exact .inr ⟨by omega, by omega⟩
    | false =>
      rw [best_f h]
      rcases best_rng C O k with h1 | h1
      · exact .inl h1
      · exact .inr ⟨h1.1, by omega⟩
def tl16 (t : Nat → Int) : List Int := tl 16 t
/-- the best of the first k: it is new, and no new one is less -/
theorem best_spec (C : List Rw) (O : List (Nat → Int)) : ∀ k, (bestI C O k = -1 ∧ ∀ j, j < k → inT O (tkr C j) = true) ∨
    ∃ b : Nat, bestI C O k = (b : Int) ∧ b < k ∧ inT O (tkr C b) = false ∧ ∀ j, j < k → inT O (tkr C j) = false → ¬ lexI (tl 16 (tkr C j)) (tl 16 (tkr C b)) < 0
  | 0 => .inl ⟨rfl, fun j hj => absurd hj (Nat.not_lt_zero j)⟩
  | k + 1 => by
    cases h : candB C O (bestI C O k) k with
    | true =>
      rw [best_t h]
      unfold candB at h
      rw [Bool.and_eq_true] at h
      have hn : inT O (tkr C k) = false := by simpa using h.1
      refine .inr ⟨k, rfl, by omega, hn, fun j hj hj2 => ?_⟩
      rcases Nat.lt_succ_iff_lt_or_eq.1 hj with hjk | rfl
      · rcases best_spec C O k with ⟨_, h2⟩ | ⟨b, h1, h2, h3, h4⟩
        · rw [h2 j hjk] at hj2; cases hj2
        · have h5 := h4 j hjk hj2
          have h6 := h.2
          rw [h1, decide_eq_false (by omega), Bool.false_or, Int.toNat_natCast] at h6
          unfold lessT at h6
          rw [decide_eq_true_eq] at h6
          intro hc
          exact h5 (lexI_trans _ _ _ hc h6)
      · rw [lexI_self]; decide
    | false =>
      rw [best_f h]
      unfold candB at h
      rcases best_spec C O k with ⟨h1, h2⟩ | ⟨b, h1, h2, h3, h4⟩
      · rw [h1, show decide ((-1 : Int) < 0) = true from rfl, Bool.true_or, Bool.and_true] at h
        refine .inl ⟨h1, fun j hj => ?_⟩
        rcases Nat.lt_succ_iff_lt_or_eq.1 hj with hj | rfl
        · exact h2 j hj
        · simpa using h
      · refine .inr ⟨b, h1, by omega, h3, fun j hj hj2 => ?_⟩
        rcases Nat.lt_succ_iff_lt_or_eq.1 hj with hj | rfl
        · exact h4 j hj hj2
        · rw [hj2, h1, decide_eq_false (by omega), Bool.false_or, Int.toNat_natCast, Bool.not_false, Bool.true_and] at h
          unfold lessT at h
          rw [decide_eq_false_iff_not] at h
          exact h
def outB (C : List Rw) : Nat → List Nat
  | 0 => []
  | k + 1 => bif decide (bestI C ((outB C k).map (tkr C)) C.length ≥ 0) then outB C k ++ [(bestI C ((outB C k).map (tkr C)) C.length).toNat] else outB C k
def outT (C : List Rw) (k : Nat) : List (Nat → Int) := (outB C k).map (tkr C)
theorem out_t {C : List Rw} {k : Nat} (h : decide (bestI C (outT C k) C.length ≥ 0) = true) : outT C (k + 1) = outT C k ++ [tkr C (bestI C (outT C k) C.length).toNat] := by
  unfold outT at h ⊢
  show (bif decide (bestI C ((outB C k).map (tkr C)) C.length ≥ 0) then _ else _ : List Nat).map (tkr C) = _
  rw [h]
  show (outB C k ++ [_]).map (tkr C) = _
  rw [List.map_append]; rfl
theorem out_f {C : List Rw} {k : Nat} (h : decide (bestI C (outT C k) C.length ≥ 0) = false) : outT C (k + 1) = outT C k := by
  unfold outT at h ⊢
  show (bif decide (bestI C ((outB C k).map (tkr C)) C.length ≥ 0) then _ else _ : List Nat).map (tkr C) = _
  rw [h]; rfl
def Strict (O : List (Nat → Int)) : Prop := O.Pairwise fun a b => lexI (tl 16 a) (tl 16 b) < 0
structure OutOk (C : List Rw) (k : Nat) : Prop where
  lt : ∀ b ∈ outB C k, b < C.length
  nd : (outB C k).Nodup
  st : Strict (outT C k)
  lo : ∀ j, j < C.length → inT (outT C k) (tkr C j) = false → ∀ s ∈ outT C k, lexI (tl 16 s) (tl 16 (tkr C j)) < 0
  len : (outB C k).length = k ∨ ∀ j, j < C.length → inT (outT C k) (tkr C j) = true
theorem inT_refl {O : List (Nat → Int)} {t : Nat → Int} (h : t ∈ O) : inT O t = true := inT_iff.2 ⟨t, h, eqA_refl _ _⟩
theorem lex_eqA {a b : Nat → Int} (h : eqA 16 a b = true) : tl 16 a = tl 16 b := by
  unfold tl
  exact List.map_congr_left fun i hi => eqA_iff.1 h i (List.mem_range.1 hi)
theorem outOk (C : List Rw) : ∀ k, OutOk C k
  | 0 => ⟨fun b hb => absurd hb (by simp [outB]), List.nodup_nil, List.Pairwise.nil, fun j hj h s hs => absurd hs (by simp [outT, outB]), .inl rfl⟩
  | k + 1 => by
    have ih := outOk C k
    have hB : outB C (k + 1) = bif decide (bestI C (outT C k) C.length ≥ 0) then outB C k ++ [(bestI C (outT C k) C.length).toNat] else outB C k := rfl
    rcases best_spec C (outT C k) C.length with ⟨h1, h2⟩ | ⟨b, h1, h2, h3, h4⟩
    · have hd : decide (bestI C (outT C k) C.length ≥ 0) = false := by rw [h1]; rfl
      have eT := out_f hd
      rw [hd] at hB
      have eB : outB C (k + 1) = outB C k := hB
      exact ⟨by rw [eB]; exact ih.lt, by rw [eB]; exact ih.nd, by rw [eT]; exact ih.st, by rw [eT]; exact ih.lo, .inr (by rw [eT]; exact h2)⟩
    · have hd : decide (bestI C (outT C k) C.length ≥ 0) = true := by rw [h1]; exact decide_eq_true (by omega)
      have eT := out_t hd
      rw [hd, h1] at hB
      have eB : outB C (k + 1) = outB C k ++ [b] := hB
      rw [h1] at eT
      have eT : outT C (k + 1) = outT C k ++ [tkr C b] := eT
      refine ⟨?_, ?_, ?_, ?_, ?_⟩
      · rw [eB]
        intro x hx
        rcases List.mem_append.1 hx with hx | hx
        · exact ih.lt x hx
        · obtain rfl := List.mem_singleton.1 hx; exact h2
      · rw [eB, List.nodup_append]
        refine ⟨ih.nd, by simp, fun x hx y hy e => ?_⟩
        obtain rfl := List.mem_singleton.1 hy
        subst e
        have : inT (outT C k) (tkr C x) = true := inT_refl (List.mem_map.2 ⟨x, hx, rfl⟩)
        rw [h3] at this; cases this
      · rw [eT]
        refine List.pairwise_append.2 ⟨ih.st, List.pairwise_singleton _ _, fun x hx y hy => ?_⟩
        obtain rfl := List.mem_singleton.1 hy
        exact ih.lo b h2 h3 x hx
      · rw [eT]
        intro j hj hj2 s hs
        have hn : inT (outT C k) (tkr C j) = false := by
          cases h5 : inT (outT C k) (tkr C j) with
          | false => rfl
          | true =>
            obtain ⟨s, h6, h7⟩ := inT_iff.1 h5
            have : inT (outT C k ++ [tkr C b]) (tkr C j) = true := inT_iff.2 ⟨s, List.mem_append_left _ h6, h7⟩
            rw [hj2] at this; cases this
        rcases List.mem_append.1 hs with hs | hs
        · exact ih.lo j hj hn s hs
        · obtain rfl := List.mem_singleton.1 hs
          rcases lexI_neg (h4 j hj hn) with h5 | h5
          · have : inT (outT C k ++ [tkr C b]) (tkr C j) = true := inT_iff.2 ⟨tkr C b, by simp, tl_eq h5⟩
            rw [hj2] at this; cases this
          · exact h5
      · rw [eB]
        rcases ih.len with h5 | h5
        · exact .inl (by rw [List.length_append, h5]; rfl)
        · rw [h5 b h2] at h3; cases h3
theorem out_all (C : List Rw) : ∀ j, j < C.length → inT (outT C C.length) (tkr C j) = true := by
  intro j hj
  have h := outOk C C.length
  rcases h.len with h1 | h1
  · cases h2 : inT (outT C C.length) (tkr C j) with
    | true => rfl
    | false =>
      exfalso
      have hnj : j ∉ outB C C.length := fun hm => by
        have : inT (outT C C.length) (tkr C j) = true := inT_refl (List.mem_map.2 ⟨j, hm, rfl⟩)
        rw [h2] at this; cases this
      have h3 := nd_len C.length (j :: outB C C.length) (List.nodup_cons.2 ⟨hnj, h.nd⟩) (fun x hx => by
        rcases List.mem_cons.1 hx with rfl | hx
        · exact hj
        · exact h.lt x hx)
      rw [List.length_cons, h1] at h3
      omega
  · exact h1 j hj
theorem out_len (C : List Rw) (k : Nat) : (outT C k).length ≤ C.length := by
  have h := outOk C k
  unfold outT
  rw [List.length_map]
  exact nd_len _ _ h.nd h.lt
/-- the items of a folding, and the reference's tokens -/
theorem fold_toks {C : List Rw} {L : List It} (hp : (L.map coreI).Perm (foldP C)) (hs : SortedI L) : L.map tk = (outT C C.length).map (tl 16) := by
  have h := outOk C C.length
  have q1 : ((L.map coreI).map nrmI).Perm (foldN C) := hp.map nrmI
  have srt : ((L.map coreI).map nrmI).Pairwise (fun a b => ¬ lexI (tk b) (tk a) < 0) := by
    rw [List.pairwise_map, List.pairwise_map]
    refine hs.imp (fun {a b} h => ?_)
    rw [tk_nrm, tk_nrm, tk_core, tk_core]; exact h
  have st1 : (L.map tk).Pairwise (fun a b => lexI a b < 0) := by
    have h1 := strict_of q1 (foldN_apart C) srt
    rw [List.pairwise_map, List.pairwise_map] at h1
    rw [List.pairwise_map]
    refine h1.imp (fun {a b} h2 => ?_)
    unfold ltN at h2
    rwa [tk_nrm, tk_nrm, tk_core, tk_core] at h2
  have st2 : ((outT C C.length).map (tl 16)).Pairwise (fun a b => lexI a b < 0) := by rw [List.pairwise_map]; exact h.st
  have nd : ∀ {M : List (List Int)}, M.Pairwise (fun a b => lexI a b < 0) → M.Nodup := fun {M} h => h.imp (fun {a b} h e => by rw [e, lexI_self] at h; exact absurd h (by decide))
  refine sorted_eq (lt := fun a b => lexI a b < 0) (fun a b h => lexI_asym h) ?_ st1 st2
  rw [List.perm_ext_iff_of_nodup (nd st1) (nd st2)]
  intro x
  constructor
  · intro hx
    obtain ⟨i, hi, rfl⟩ := List.mem_map.1 hx
    obtain ⟨tok, rows, h1, _, _, r, hr, h2⟩ := fold_of hp hi
    obtain ⟨j, hj⟩ := List.getElem?_of_mem hr
    have hjl := (List.getElem?_eq_some_iff.1 hj).1
    have ht : tkr C j = tok := by
      unfold tkr
      rw [List.getD_eq_getElem?_getD, hj, h2]; rfl
    obtain ⟨s, h3, h4⟩ := inT_iff.1 (out_all C j hjl)
    refine List.mem_map.2 ⟨s, h3, ?_⟩
    rw [lex_eqA h4, ht]
    unfold tk
    rw [coreI_tok h1, made_tok]
  · intro hx
    obtain ⟨s, hs2, rfl⟩ := List.mem_map.1 hx
    obtain ⟨b, hb, rfl⟩ := List.mem_map.1 hs2
    have hbl := h.lt b hb
    have hr : C.getD b rz ∈ C := by rw [List.getD_eq_getElem?_getD, List.getElem?_eq_getElem hbl]; exact List.getElem_mem hbl
    obtain ⟨p, h1, h2⟩ := parts_has C hr
    have h3 : partI p ∈ L.map coreI := hp.mem_iff.2 (List.mem_map.2 ⟨p, h1, rfl⟩)
    obtain ⟨i, hi, h4⟩ := List.mem_map.1 h3
    refine List.mem_map.2 ⟨i, hi, ?_⟩
    have h5 : i.tok = p.1 := by
      have : (coreI i).tok = (partI p).tok := by rw [h4]
      rw [partI_tok] at this; exact this
    unfold tk
    rw [h5]
    exact lex_eqA h2
/-- the reference's item of the i-th token is the i-th item -/
theorem tok_item {C : List Rw} {L : List It} (hp : (L.map coreI).Perm (foldP C)) (hs : SortedI L) : L.length = (outT C C.length).length ∧
    ∀ i, i < L.length → (oI ((outT C C.length).getD i (fun _ => 0)) C).2 = true ∧ nrmI (coreI (oI ((outT C C.length).getD i (fun _ => 0)) C).1) = nrmI (coreI (L.getD i iz)) := by
  have ht := fold_toks hp hs
  have hl : L.length = (outT C C.length).length := by have := congrArg List.length ht; simpa using this
  refine ⟨hl, fun i hi => ?_⟩
  have h1 : (L.map tk)[i]? = ((outT C C.length).map (tl 16))[i]? := by rw [ht]
  rw [List.getElem?_map, List.getElem?_map, getD_getI hi, List.getElem?_eq_getElem (show i < (outT C C.length).length by omega)] at h1
  have ei : (outT C C.length)[i]'(by omega) = (outT C C.length).getD i (fun _ => 0) := by
    rw [List.getD_eq_getElem?_getD, List.getElem?_eq_getElem (show i < (outT C C.length).length by omega)]; rfl
  rw [ei] at h1
  have h2 : tk (L.getD i iz) = tl 16 ((outT C C.length).getD i (fun _ => 0)) := by simpa using h1
  obtain ⟨tok, rows, h3, _, h4, r, hr, h5⟩ := fold_of hp (getD_memI hi)
  have h6 : eqA 16 tok ((outT C C.length).getD i (fun _ => 0)) = true := by
    refine tl_eq ?_
    rw [← h2]
    unfold tk
    rw [coreI_tok h3, made_tok]
  have h7 : (latR anyR (ofRows ((outT C C.length).getD i (fun _ => 0)) C)).2 = true := by
    refine (lat_ge anyR _ r ?_ rfl).1
    exact List.mem_filter.2 ⟨hr, by rw [← h5]; exact eqA_symm h6⟩
  rw [oI_some h7]
  refine ⟨rfl, ?_⟩
  show itN C ((outT C C.length).getD i (fun _ => 0)) = _
  rw [← itN_eq h6 C, h3, h4]
  rfl
end Go.Proofs.Ytkdbjhlkahkobaa
/- walks, printed by a program of ours -/
namespace Go.Proofs.Ytkdbjhlkahkobaa
open Jal Go.RowKit
set_option maxRecDepth 100000
def t0 : Nat → Int := fun _ => 0
theorem own_el {α : Type} {f : α → List Value} {e : TypeId} {sz : Nat} {p : Option Addr} {n c q : Nat} {L : List α} {oe : List Ent} (d : α) (hf : ∀ a, (f a).length = sz) (h : OwnL e sz (.slice p n c) n (L.flatMap f) oe) (hL : L.length = n) (hq : q < n) :
    ∃ g, p = some ⟨g, 0, none⟩ ∧ ∀ w0 H w, Sat w0 H w → oe.Sublist H → Mem w ⟨g, 0 + q * sz, none⟩ (f (L.getD q d)) := by
  rcases h.2 with ⟨_, h0, _⟩ | ⟨g, cap, cur, h1, h2, _⟩
  · omega
  · cases h1
    refine ⟨g, rfl, fun w0 H w hw hs => ?_⟩
    have hsl := SlIn.sl (h.slInL (el := fun i => f (L.getD i d)) hf (fun i hi => ⟨L.getD i d, by rw [List.getD_eq_getElem?_getD, List.getElem?_eq_getElem (show i < L.length by omega)]; rfl, rfl⟩)) (hw.sub hs)
    obtain ⟨b, o, hp, _, hm⟩ := hsl.at hq
    cases hp
    exact hm q hq
theorem bs35t (t : Nat → Int) : ∀ w : World, (Instr.buildSlice 35 1 #[(0, .agg (arr .u8 16 t).toArray)]).run Try.prog w = .ok (.slice (some ⟨w.heap.size, 0, none⟩) 1 1) (w.alloc (.cells (arr .u8 16 t).toArray 34)) := fun w => by kernel_rfl

theorem in_calls (w : World) (p : Option Addr) (n c : Nat) (O : List (Nat → Int)) (hO : O.length = n) (hn : n ≤ 100) (hl : Sl w p n 16 (fun i => arr .u8 16 (O.getD i t0))) (t : Nat → Int) : Calls Try.prog 97 #[.slice p n c, .agg (arr .u8 16 t).toArray] w (Ret (.bool (inT O t)) w) := by
  refine fn_calls (n := 18) Try.func97 rfl rfl (lb rfl) ?_
  refine cseq ?_
  refine creg ?_
  refine lbxa rfl (fun b1 => ?_)
  refine l1 (asgb rfl) ?_
  refine lnil ?_
  refine nthen ?_
  refine cseq ?_
  refine cseq ?_
  refine creg ?_
  refine l1 (asg rfl) ?_
  refine lnil ?_
  refine nthen ?_
  refine cblock ?_
  refine cloopI (σ := Nat) (fun s => [(0, .slice p n c), (3, .pointer (some ⟨b1, 0, none⟩)), (5, .int .i64 (s : Int))]) (fun s => [⟨b1, arr .u8 16 t, 34⟩]) (fun s => s ≤ n ∧ ∀ j, j < s → eqA 16 (O.getD j t0) t = false) (fun s => n - s) 0 ⟨Nat.zero_le _, fun j hj => by omega⟩ ⟨rfl, rfl, rfl, trivial⟩ (List.Sublist.refl _) ?_
  rintro i j hI
  show WC _ _ _ ([⟨b1, arr .u8 16 t, 34⟩]) _ _ (over j [(0, .slice p n c), (3, .pointer (some ⟨b1, 0, none⟩)), (5, .int .i64 (i : Int))])
  replace hI : i ≤ n ∧ ∀ j, j < i → eqA 16 (O.getD j t0) t = false := hI
  refine cseq ?_
  refine cseq ?_
  refine creg ?_
  refine l1 (mvi rfl) ?_
  refine l1 (mvs rfl) ?_
  refine l1 (lens sl35 rfl rfl) ?_
  refine l1 (lss rfl rfl) ?_
  refine lnil ?_
  refine nthen ?_
  refine cif rfl (fun h1 => ?_) (fun h1 => ?_)
  · have hlt : i < n := by (have := dt h1; omega)
    obtain ⟨b, o, hp, hbl, hm⟩ := hl.at hlt
    refine cskip ?_
    refine nthen ?_
    refine cseq ?_
    refine cblock ?_
    refine cseq ?_
    refine cregq mo (by kernel_rfl) ?_
    refine q1 (mvs rfl) ?_
    refine q1 (mvi rfl) ?_
    refine q1 (isp sl35 hp rfl rfl (by omega) (by omega)) ?_
    refine q1 (ldam (vs := arr .u8 16 (O.getD i t0)) Try.isAgg34 Try.sizeOf34 rfl rfl (fun w' hw => (hm i hlt).kept hw.below hbl)) ?_
    refine q1 (ldw 0 Try.isAgg34 Try.sizeOf34 rfl rfl rfl) ?_
    refine q1 (eqla rfl rfl (fun w => eql34 _ _ w)) ?_
    refine qnil ?_
    refine nthen ?_
    refine cif rfl (fun h2 => ?_) (fun h2 => ?_)
    · skip
      refine cseq ?_
      refine creg ?_
      refine l1 (asgb rfl) ?_
      refine lnil ?_
      refine nthen ?_
      refine cret ?_
      refine nblkR ?_
      refine nthenR ?_
      refine nIR ?_
      refine nblkR ?_
      refine nthenR ?_
      exact fin1b rfl rfl ((inT_yes (by omega) h2).symm)
    · skip
      refine cskip ?_
      refine nblkN ?_
      refine nthen ?_
      refine creg ?_
      refine l1 (mvi rfl) ?_
      first | refine l1 (addn rfl rfl (ri (by omega) (by omega))) ?_ | refine l1 (add rfl rfl) ?_
      refine l1 (asg rfl) ?_
      refine lnil ?_
      exact nI (i + 1) ⟨by omega, fun j hj => (Nat.lt_succ_iff_lt_or_eq.1 hj).elim (fun h => hI.2 j h) (fun h => by subst h; exact h2)⟩ (by show n - (i + 1) < n - i; omega) ⟨rfl, rfl, rfl, trivial⟩ (List.Sublist.refl _)
  · skip
    refine cexit ?_
    refine nthenE ?_
    refine nIE ?_
    refine nblkE ?_
    refine nthen ?_
    refine cseq ?_
    refine creg ?_
    refine l1 (asgb rfl) ?_
    refine lnil ?_
    refine nthen ?_
    refine cret ?_
    exact fin1b rfl rfl ((inT_no (fun j hj => hI.2 j (by have := df h1; omega))).symm)

set_option maxHeartbeats 1000000 in
theorem tokens_calls (w : World) (p : Option Addr) (n c : Nat) (C : List Rw) (hC : C.length = n) (hn : n ≤ 100) (hl : Sl w p n 130 (fun i => encR (C.getD i rz))) : Calls Try.prog 60 #[.slice p n c] w (RetM (fun v Hn => OwnL 34 16 v (outT C C.length).length ((outT C C.length).flatMap (fun t => arr .u8 16 t)) Hn) w) := by
  refine fn_calls (n := 57) Try.func60 rfl rfl (lb rfl) ?_
  refine cseq ?_
  refine creg ?_
  refine l1 (asg rfl) ?_
  refine lnil ?_
  refine nthen ?_
  refine cseq ?_
  refine creg ?_
  refine l1 (asg rfl) ?_
  refine lnil ?_
  refine nthen ?_
  refine cseq ?_
  refine cseq ?_
  refine creg ?_
  refine l1 (asg rfl) ?_
  refine lnil ?_
  refine nthen ?_
  refine cblock ?_
  refine cloopI (σ := Nat × Value × List Ent) (fun s => [(0, .slice p n c), (3, s.2.1), (4, .int .i64 (s.1 : Int))]) (fun s => ([] ++ (s.2.2))) (fun s => s.1 ≤ n ∧ OwnL 34 16 s.2.1 (outT C s.1).length ((outT C s.1).flatMap (fun t => arr .u8 16 t)) s.2.2) (fun s => n - s.1) (0, .slice none 0 0, []) ⟨Nat.zero_le _, OwnL.nil 34 16⟩ ⟨rfl, rfl, rfl, trivial⟩ (List.Sublist.refl _) ?_
  rintro ⟨k, v3, oe⟩ j hI; replace hI : k ≤ n ∧ OwnL 34 16 v3 (outT C k).length ((outT C k).flatMap (fun t => arr .u8 16 t)) oe := hI; obtain ⟨p3, c3, rfl⟩ := hI.2.form
  show WC _ _ _ ((oe)) _ _ (over j [(0, .slice p n c), (3, .slice p3 (outT C k).length c3), (4, .int .i64 (k : Int))])
  have hown := hI.2; have hol := out_len C k
  refine cseq ?_
  refine cseq ?_
  refine creg ?_
  refine l1 (mvi rfl) ?_
  refine l1 (mvs rfl) ?_
  refine l1 (lens sl74 rfl rfl) ?_
  refine l1 (lss rfl rfl) ?_
  refine lnil ?_
  refine nthen ?_
  refine cif rfl (fun h1 => ?_) (fun h1 => ?_)
  · have hkn : k < n := by (have := dt h1; omega)
    refine cskip ?_
    refine nthen ?_
    refine cseq ?_
    refine cblock ?_
    refine cseq ?_
    refine creg ?_
    refine l1 (asg rfl) ?_
    refine lnil ?_
    refine nthen ?_
    refine cseq ?_
    refine cseq ?_
    refine creg ?_
    refine l1 (asg rfl) ?_
    refine lnil ?_
    refine nthen ?_
    refine cblock ?_
    refine cloopI (σ := Nat) (fun s => [(0, .slice p n c), (3, .slice p3 (outT C k).length c3), (4, .int .i64 (k : Int)), (5, .int .i64 (bestI C (outT C k) s)), (6, .int .i64 (s : Int))]) (fun s => ([] ++ (oe))) (fun s => s ≤ n) (fun s => n - s) 0 (Nat.zero_le _) ⟨rfl, rfl, rfl, rfl, rfl, trivial⟩ (List.Sublist.refl _) ?_
    rintro i j hi
    show WC _ _ _ ((oe)) _ _ (over j [(0, .slice p n c), (3, .slice p3 (outT C k).length c3), (4, .int .i64 (k : Int)), (5, .int .i64 (bestI C (outT C k) i)), (6, .int .i64 (i : Int))])
    replace hi : i ≤ n := hi; have hbr := best_rng C (outT C k) i
    refine cseq ?_
    refine cseq ?_
    refine creg ?_
    refine l1 (mvi rfl) ?_
    refine l1 (mvs rfl) ?_
    refine l1 (lens sl74 rfl rfl) ?_
    refine l1 (lss rfl rfl) ?_
    refine lnil ?_
    refine nthen ?_
    refine cif rfl (fun h2 => ?_) (fun h2 => ?_)
    · have hlt : i < n := by (have := dt h2; omega)
      obtain ⟨b, o, hp, hbl, hm⟩ := hl.at hlt
      refine cskip ?_
      refine nthen ?_
      refine cseq ?_
      refine cblock ?_
      refine cseq ?_
      refine creg ?_
      refine l1 (mvs rfl) ?_
      refine l1 (mvi rfl) ?_
      refine l1 (isp sl74 hp rfl rfl (by omega) (by omega)) ?_
      refine l1 (fa fa79_0 rfl) ?_
      refine l1 (fa fa37_6 rfl) ?_
      refine l1 (ldam (vs := arr .u8 16 (tkr C i)) Try.isAgg34 Try.sizeOf34 rfl rfl (fun w' hw => mem_part 37 16 ((hm i hlt).kept hw.below hbl))) ?_
      refine lal Try.zeroValue34 rfl (fun b1 => ?_)
      refine wl_perm (ins_perm 0 _ _) ?_
      refine lstw 0 rfl rfl rfl Try.sizeOf34 rfl rfl rfl ?_
      refine lnil ?_
      refine nthen ?_
      refine cseq ?_
      refine cregq mo (by kernel_rfl) ?_
      refine q1 (mvs rfl) ?_
      refine q1 (ldw 0 Try.isAgg34 Try.sizeOf34 rfl rfl rfl) ?_
      refine q1 (cl hb97 rfl (mc rfl (mc rfl mn)) (fun w hw => in_calls w p3 (outT C k).length c3 (outT C k) rfl (by omega) (SlIn.sl (hown.slInL (el := fun i => arr .u8 16 ((outT C k).getD i t0)) (fun a => rfl) (fun i hi => ⟨(outT C k).getD i t0, by rw [List.getD_eq_getElem?_getD, List.getElem?_eq_getElem hi]; rfl, rfl⟩)) (hw.sub (List.Sublist.cons _ (List.Sublist.refl _)))) (tkr C i))) ?_
      refine q1 (nt rfl) ?_
      refine q1 (mvb rfl) ?_
      refine q1g rfl (gwt rfl) (fun h => mvi rfl) ?_
      refine q1g rfl (gwt rfl) (fun h => lss (gvt h) rfl) ?_
      refine q1g rfl (gwt rfl) (fun h => mvb (gvt h)) ?_
      refine q1g rfl (ggf rfl) (fun h => ldw 0 Try.isAgg34 Try.sizeOf34 rfl rfl rfl) ?_
      refine q1g rfl (ggf rfl) (fun h => mvs rfl) ?_
      refine q1g rfl (ggf rfl) (fun h => mvi rfl) ?_
      refine q1g rfl (ggf rfl) (fun h => isp (b := b) (o := o) sl74 hp (gvt h) (gvt h) (by simp at h; omega) (by simp at h; omega)) ?_
      refine q1g rfl (ggf rfl) (fun h => fa fa79_0 (gvt h)) ?_
      refine q1g rfl (ggf rfl) (fun h => fa fa37_6 (gvt h)) ?_
      refine q1g rfl (ggf rfl) (fun h => ldam (vs := arr .u8 16 (tkr C (bestI C (outT C k) i).toNat)) Try.isAgg34 Try.sizeOf34 (gvt h) rfl (fun w' hw => mem_part 37 16 ((hm (bestI C (outT C k) i).toNat (by simp at h; omega)).kept hw.below hbl))) ?_
      refine q1g rfl (ggf rfl) (fun h => cl hb98 rfl (mc (gvt h) (mc (gvt h) mn)) (fun w hw => less_calls _ _ w)) ?_
      refine q1g rfl (gwt rfl) (fun h => pk_or (gvt h) rfl (gva h)) ?_
      refine q1 (pk_and rfl rfl rfl) ?_
      refine qnil ?_
      refine nthen ?_
      refine cif rfl (fun h3 => ?_) (fun h3 => ?_)
      · have hnb : Value.int .i64 (i : Int) = .int .i64 (bestI C (outT C k) (i + 1)) := by rw [best_t h3]
        refine creg ?_
        refine l1 (mvi rfl) ?_
        refine l1 (asg rfl) ?_
        refine lnil ?_
        refine nblkN ?_
        refine nthen ?_
        refine creg ?_
        refine l1 (mvi rfl) ?_
        first | refine l1 (addn rfl rfl (ri (by omega) (by omega))) ?_ | refine l1 (add rfl rfl) ?_
        refine l1 (asg rfl) ?_
        refine lnil ?_
        exact nI (i + 1) (by show i + 1 ≤ n; omega) (by show n - (i + 1) < n - i; omega) ⟨rfl, rfl, rfl, hnb, rfl, trivial⟩ (List.Sublist.cons _ (List.Sublist.refl _))
      · have hnb : Value.int .i64 (bestI C (outT C k) i) = .int .i64 (bestI C (outT C k) (i + 1)) := by rw [best_f h3]
        refine cskip ?_
        refine nblkN ?_
        refine nthen ?_
        refine creg ?_
        refine l1 (mvi rfl) ?_
        first | refine l1 (addn rfl rfl (ri (by omega) (by omega))) ?_ | refine l1 (add rfl rfl) ?_
        refine l1 (asg rfl) ?_
        refine lnil ?_
        exact nI (i + 1) (by show i + 1 ≤ n; omega) (by show n - (i + 1) < n - i; omega) ⟨rfl, rfl, rfl, hnb, rfl, trivial⟩ (List.Sublist.cons _ (List.Sublist.refl _))
    · have hin : i = C.length := by (have := df h2; omega)
      subst hin
      refine cexit ?_
      refine nthenE ?_
      refine nIE ?_
      refine nblkE ?_
      refine nthen ?_
      refine cseq ?_
      refine creg ?_
      refine l1 (mvi rfl) ?_
      refine l1 (geq rfl rfl) ?_
      refine lnil ?_
      refine nthen ?_
      refine cif rfl (fun h4 => ?_) (fun h4 => ?_)
      · have hbC := h4
        have hb0 : 0 ≤ (bestI C (outT C k) C.length) ∧ (bestI C (outT C k) C.length) < C.length := by (have := dt h4; omega)
        obtain ⟨b, o, hp, hbl, hm⟩ := hl.at (i := (bestI C (outT C k) C.length).toNat) (by omega)
        refine creg ?_
        refine l1 (mvs rfl) ?_
        refine l1 (mvs rfl) ?_
        refine l1 (mvi rfl) ?_
        refine l1 (isp sl74 hp rfl rfl (by omega) (by omega)) ?_
        refine l1 (fa fa79_0 rfl) ?_
        refine l1 (fa fa37_6 rfl) ?_
        refine l1 (ldam (vs := arr .u8 16 (tkr C (bestI C (outT C k) C.length).toNat)) Try.isAgg34 Try.sizeOf34 rfl rfl (fun w' hw => mem_part 37 16 ((hm (bestI C (outT C k) C.length).toNat (by omega)).kept hw.below hbl))) ?_
        refine lbs Try.underlying35 rfl (bs35t _) (fun b2 => ?_)
        refine wl_perm (ins_perm 0 _ _) ?_
        refine lapp [_] [] oe el35 (by rw [List.append_nil]; rfl) rfl hown rfl (news := arr .u8 16 (tkr C (bestI C (outT C k) C.length).toNat)) rfl (fun w' hw => by have := hw.mem (i := 0) rfl 0; simpa using this) (oneA rfl) (by decide) (by unfold maxLen; omega) (by omega) ?_
        intro g' cap oe' hown'
        rw [List.append_nil]
        refine l1 (asg rfl) ?_
        refine lnil ?_
        refine nblkN ?_
        refine nthen ?_
        refine creg ?_
        refine l1 (mvi rfl) ?_
        first | refine l1 (addn rfl rfl (ri (by omega) (by omega))) ?_ | refine l1 (add rfl rfl) ?_
        refine l1 (asg rfl) ?_
        refine lnil ?_
        exact nI (k + 1, .slice (some ⟨g', 0, none⟩) ((outT C k).length + 1) cap, oe') ⟨by omega, by rw [out_t hbC, List.flatMap_append, List.length_append]; simpa using hown'⟩ (by show n - (k + 1) < n - k; omega) ⟨rfl, rfl, rfl, trivial⟩ (List.Sublist.cons _ (List.Sublist.refl _))
      · have hbC := h4
        refine cskip ?_
        refine nblkN ?_
        refine nthen ?_
        refine creg ?_
        refine l1 (mvi rfl) ?_
        first | refine l1 (addn rfl rfl (ri (by omega) (by omega))) ?_ | refine l1 (add rfl rfl) ?_
        refine l1 (asg rfl) ?_
        refine lnil ?_
        exact nI (k + 1, .slice p3 (outT C k).length c3, oe) ⟨by omega, by rw [out_f hbC]; exact hown⟩ (by show n - (k + 1) < n - k; omega) ⟨rfl, rfl, rfl, trivial⟩ (List.Sublist.refl _)
  · have hke : C.length = k := by (have := df h1; omega)
    subst hke
    refine cexit ?_
    refine nthenE ?_
    refine nIE ?_
    refine nblkE ?_
    refine nthen ?_
    refine cseq ?_
    refine creg ?_
    refine l1 (mvs rfl) ?_
    refine l1 (asg rfl) ?_
    refine lnil ?_
    refine nthen ?_
    refine cret ?_
    exact finM (.slice p3 (outT C C.length).length c3) oe (rv1 rfl (rvt rfl)) ⟨oe, List.Perm.refl _, List.Sublist.refl _⟩ hown
end Go.Proofs.Ytkdbjhlkahkobaa
/- walks, printed by a program of ours -/
namespace Go.Proofs.Ytkdbjhlkahkobaa
open Jal Go.RowKit
set_option maxRecDepth 100000
theorem filt_mem {q : It → Bool} {L : List It} {k : Nat} (hk : k < (L.filter q).length) : (L.filter q).getD k iz ∈ L := (List.mem_filter.1 (getD_memI hk)).1
theorem filt_q {q : It → Bool} {L : List It} {k : Nat} (hk : k < (L.filter q).length) : q ((L.filter q).getD k iz) = true := (List.mem_filter.1 (getD_memI hk)).2
theorem oI_in {w : World} {tok : Nat → Int} {l : Nat → Rw} {n : Nat} (h : ∀ i, i < n → RwIn w (l i)) : ItSat w (oI tok (counted l n)).1 := of_in h
theorem oI_gn {tok : Nat → Int} {l : Nat → Rw} {n k : Nat} (h : ∀ i, i < n → (l i).ch.gn ≤ k) : (oI tok (counted l n)).1.gn ≤ k := of_gn h
theorem oI_ok {tok : Nat → Int} {l : Nat → Rw} {n : Nat} (k : ∀ i, i < n → RwOk (l i)) : HdOk (oI tok (counted l n)).1.hd := of_ok k
theorem wid_found {a b : Flt} {L1 L2 : List It} (hw : widerB a b = true) (h : (L1.map coreI).map nrmI = (L2.map coreI).map nrmI) {i : Nat} (hi : i < (L2.filter (showsB b)).length) :
    anyR2 (fun q => rsameI ((L1.filter (showsB a)).getD q iz) ((L2.filter (showsB b)).getD i iz)) (L1.filter (showsB a)).length = true := by
  obtain ⟨j, hj⟩ := List.getElem?_of_mem (filt_mem hi)
  have hjl := (List.getElem?_eq_some_iff.1 hj).1
  have hl := (map_same h).1
  have e : L2.getD j iz = (L2.filter (showsB b)).getD i iz := by rw [List.getD_eq_getElem?_getD, hj]; rfl
  have hs : showsB b (L2.getD j iz) = true := by rw [e]; exact filt_q hi
  have hs1 : showsB a (L1.getD j iz) = true := by rw [shows_core a (map_nrm h (show j < L1.length by omega))]; exact wider_shows hw hs
  obtain ⟨h1, h2⟩ := at_lt (show j < L1.length by omega) hs1
  refine anyR2_yes (q := ((L1.take j).filter (showsB a)).length) ?_ h1
  show rsameI ((L1.filter (showsB a)).getD ((L1.take j).filter (showsB a)).length iz) ((L2.filter (showsB b)).getD i iz) = true
  rw [h2, ← e]
  exact (map_same h).2 j (by omega)

set_option maxHeartbeats 2000000 in
theorem fall_law (w : World) (p : Option Addr) (n c : Nat) (l : Nat → Rw) (hn : (n : Int) ≤ 9223372036854775807) (hl : Sl w p n 130 (fun i => encR (l i))) (hx : ∀ i, i < n → RwIn w (l i)) (kx : ∀ i, i < n → RwOk (l i)) : Calls Try.prog 18 #[.slice p n c] w (Ret (.bool true) w) := by
  refine fn_calls (n := 67) Try.func18 rfl rfl (lb rfl) ?_
  refine cseq ?_
  refine creg ?_
  refine l1 (asg rfl) ?_
  refine lnil ?_
  refine nthen ?_
  refine cseq ?_
  refine cseq ?_
  refine creg ?_
  refine l1 (cl hb57 rfl mn (fun w hw => awake19_calls w)) ?_
  refine l1 (nt rfl) ?_
  refine l1 (mvb rfl) ?_
  refine l1g rfl (gwf rfl) (fun h => mvs rfl) ?_
  refine l1g rfl (gwf rfl) (fun h => cl hb48 rfl (mc (gvt h) (mc rfl mn)) (fun w hw => fewrows_calls w p n c l 30 hn (Sl.keptS hl hw) (fun i hi => (hx i hi).keptS hw) kx)) ?_
  refine l1g rfl (gwf rfl) (fun h => nt (gvt h)) ?_
  refine l1 (pk_or rfl rfl rfl) ?_
  refine lnil ?_
  refine nthen ?_
  refine cif rfl (fun h1 => ?_) (fun h1 => ?_)
  · skip
    refine cseq ?_
    refine creg ?_
    refine l1 (cl hb57 rfl mn (fun w hw => awake19_calls w)) ?_
    refine l1 (asg rfl) ?_
    refine lnil ?_
    refine nthen ?_
    refine cret ?_
    refine nthenR ?_
    exact fin1b rfl rfl (by first | rfl | (rw [hend]; rfl))
  · have hF0 : fewR l n 30 = true := by (simpa using h1)
    have hn40 := (fewR_row hF0 (by decide)).1
    have hfx : ∀ i, i < n → (l i).hd.tn ≤ 20 ∧ (l i).ch.gn ≤ 20 := fun i hi => fewRow_le ((fewR_row hF0 (by decide)).2 i hi)
    have hcl := counted_len l n
    refine cskip ?_
    refine nthen ?_
    refine cseq ?_
    refine creg ?_
    refine l1 (bldk (zs := encF (fz true)) rfl bk96a) ?_
    refine l1 (mvs rfl) ?_
    refine lclm hb58 rfl (mc rfl (mc rfl mn)) (fun w' hw => shown_calls w' (fz true) (fzIn _ _) (by show 0 ≤ 100; decide) p n c l (by omega) (Sl.keptS hl hw) (fun i hi => (hx i hi).keptS hw) kx hfx) ?_
    rintro v1 H1 ⟨L1, oe1, tl1, rfl, hO1, hM1, hP1, hS1⟩
    obtain ⟨p1, c1, rfl⟩ := hO1.form
    have hH1 := fold_hd hP1 (cnt_ok kx)
    have hG1 := fold_gn (m := 20) hP1 (cnt_gn (fun i hi => (hfx i hi).2))
    have hLl1 := fold_len hP1
    refine l1 (asg rfl) ?_
    refine lnil ?_
    refine nthen ?_
    refine cseq ?_
    refine creg ?_
    refine l1 (mvs rfl) ?_
    refine lclm hb56 rfl (mc rfl mn) (fun w' hw => fold_calls w' p n c l (by omega) (Sl.keptS hl hw) (fun i hi => (hx i hi).keptS hw) kx hfx) ?_
    rintro v2 H2 ⟨L2, oe2, tl2, rfl, hF2⟩
    have hnm := fold_eq (List.Perm.refl _) hP1 hF2.perm hS1 hF2.srt
    have hsm := map_same hnm
    obtain ⟨p2, c2, rfl⟩ := hF2.own.form
    have hH2 := fold_hd hF2.perm (cnt_ok kx)
    have hG2 := fold_gn (m := 20) hF2.perm (cnt_gn (fun i hi => (hfx i hi).2))
    have hL2 := fold_len hF2.perm
    refine l1 (asg rfl) ?_
    refine lnil ?_
    refine nthen ?_
    refine cseq ?_
    refine creg ?_
    refine l1 (asg rfl) ?_
    refine lnil ?_
    refine nthen ?_
    refine cseq ?_
    refine cseq ?_
    refine creg ?_
    refine l1 (asg rfl) ?_
    refine lnil ?_
    refine nthen ?_
    refine cblock ?_
    refine cloopI (σ := Nat) (fun s => [(0, .slice p n c), (3, .slice p1 (L1.filter (showsB (fz true))).length c1), (4, .slice p2 L2.length c2), (5, .int .i64 (((L1.take s).filter (showsB (fz true))).length : Int)), (6, .int .i64 (s : Int))]) (fun s => ([] ++ ((oe1 ++ tl1) ++ (oe2 ++ tl2)))) (fun s => s ≤ L2.length) (fun s => L2.length - s) 0 (Nat.zero_le _) ⟨rfl, rfl, rfl, rfl, rfl, trivial⟩ (List.Sublist.refl _) ?_
    rintro i j hi
    show WC _ _ _ (((oe1 ++ tl1) ++ (oe2 ++ tl2))) _ _ (over j [(0, .slice p n c), (3, .slice p1 (L1.filter (showsB (fz true))).length c1), (4, .slice p2 L2.length c2), (5, .int .i64 (((L1.take i).filter (showsB (fz true))).length : Int)), (6, .int .i64 (i : Int))])
    replace hi : i ≤ L2.length := hi; have hfle := filter_le (showsB (fz true)) L1 i; have hfl1 := List.length_filter_le (showsB (fz true)) L1
    refine cseq ?_
    refine cseq ?_
    refine creg ?_
    refine l1 (mvi rfl) ?_
    refine l1 (mvs rfl) ?_
    refine l1 (lens sl90 rfl rfl) ?_
    refine l1 (lss rfl rfl) ?_
    refine lnil ?_
    refine nthen ?_
    refine cif rfl (fun h2 => ?_) (fun h2 => ?_)
    · have hlt : i < L2.length := by (have := dt h2; omega)
      have hlt1 : i < L1.length := by (rw [hsm.1]; exact hlt)
      obtain ⟨g2x, hp2, hm2⟩ := own_itm hF2.own rfl hlt
      refine cskip ?_
      refine nthen ?_
      refine cseq ?_
      refine cblock ?_
      refine cseq ?_
      refine creg ?_
      refine l1 (mvs rfl) ?_
      refine l1 (mvi rfl) ?_
      refine l1 (isp sl90 hp2 rfl rfl (by omega) (by omega)) ?_
      refine l1 (fa fa83_3 rfl) ?_
      refine l1 (ldm (v := .bool (L2.getD i iz).alive) Try.isAgg4 rfl (fun w' hw => (hm2 _ _ _ hw (List.Sublist.trans (List.sublist_append_left oe2 tl2) (List.sublist_append_right _ _))).at (i := 142) rfl)) ?_
      refine l1 (mvb rfl) ?_
      refine l1g rfl (gwt rfl) (fun h => mvs rfl) ?_
      refine l1g rfl (gwt rfl) (fun h => mvi rfl) ?_
      refine l1g rfl (gwt rfl) (fun h => isp sl90 hp2 (gvt h) (gvt h) (by omega) (by omega)) ?_
      refine l1g rfl (gwt rfl) (fun h => fa fa83_2 (gvt h)) ?_
      refine l1g rfl (gwt rfl) (fun h => ldm (v := .bool (L2.getD i iz).known) Try.isAgg4 (gvt h) (fun w' hw => (hm2 _ _ _ hw (List.Sublist.trans (List.sublist_append_left oe2 tl2) (List.sublist_append_right _ _))).at (i := 141) rfl)) ?_
      refine l1 (pk_and rfl rfl rfl) ?_
      refine lnil ?_
      refine nthen ?_
      refine cif rfl (fun h3 => ?_) (fun h3 => ?_)
      · have hs2 : showsB (fz true) (L2.getD i iz) = true := by (rw [shows_all]; exact h3)
        have hs1 : showsB (fz true) (L1.getD i iz) = true := by (rw [shows_core _ (map_nrm hnm hlt1)]; exact hs2)
        have hat := at_lt hlt1 hs1
        obtain ⟨g1x, hp1, hm1⟩ := own_itm hO1 rfl hat.1
        refine cseq ?_
        refine cseq ?_
        refine cregq mo (by kernel_rfl) ?_
        refine q1 (mvi rfl) ?_
        refine q1 (mvs rfl) ?_
        refine q1 (lens sl90 rfl rfl) ?_
        refine q1 (geq rfl rfl) ?_
        refine q1 (mvb rfl) ?_
        refine q1g rfl (gwf rfl) (fun h => mvs rfl) ?_
        refine q1g rfl (gwf rfl) (fun h => mvi rfl) ?_
        refine q1g rfl (gwf rfl) (fun h => isp sl90 hp1 (gvt h) (gvt h) (by omega) (by have := hat.1; omega)) ?_
        refine q1g rfl (gwf rfl) (fun h => ldam (vs := encI (L1.getD i iz)) Try.isAgg83 Try.sizeOf83 (gvt h) rfl (fun w' hw => by (have h9 := hm1 _ _ _ hw (List.Sublist.trans (List.sublist_append_left oe1 tl1) (List.sublist_append_left _ _)); rwa [hat.2] at h9))) ?_
        refine q1g rfl (gwf rfl) (fun h => mvs rfl) ?_
        refine q1g rfl (gwf rfl) (fun h => mvi rfl) ?_
        refine q1g rfl (gwf rfl) (fun h => isp sl90 hp2 (gvt h) (gvt h) (by omega) (by omega)) ?_
        refine q1g rfl (gwf rfl) (fun h => ldam (vs := encI (L2.getD i iz)) Try.isAgg83 Try.sizeOf83 (gvt h) rfl (fun w' hw => hm2 _ _ _ hw (List.Sublist.trans (List.sublist_append_left oe2 tl2) (List.sublist_append_right _ _)))) ?_
        refine q1g rfl (gwf rfl) (fun h => cl hb53 rfl (mc (gvt h) (mc (gvt h) mn)) (fun w hw => rsameI_calls (L1.getD i iz) (L2.getD i iz) w ((hM1 _ (getD_memI hlt1)).sat (hw.sub (List.Sublist.trans (List.sublist_append_right oe1 tl1) (List.sublist_append_left _ _)))) ((hF2.mem _ (getD_memI hlt)).sat (hw.sub (List.Sublist.trans (List.sublist_append_right oe2 tl2) (List.sublist_append_right _ _)))) (hH1 _ (getD_memI hlt1)) (hH2 _ (getD_memI hlt)) (by have := hG1 _ (getD_memI hlt1); omega))) ?_
        refine q1g rfl (gwf rfl) (fun h => nt (gvt h)) ?_
        refine q1 (pk_or rfl rfl rfl) ?_
        refine qnil ?_
        refine nthen ?_
        refine ciff (bf rfl (by rw [hsm.2 i hlt1, decide_eq_false (by have := hat.1; omega)]; rfl)) ?_
        refine cskip ?_
        refine nthen ?_
        refine creg ?_
        refine l1 (mvi rfl) ?_
        refine l1 (addn rfl rfl (ri (by have := hat.1; omega) (by have := hat.1; omega))) ?_
        refine l1 (asg rfl) ?_
        refine lnil ?_
        refine nblkN ?_
        refine nthen ?_
        refine creg ?_
        refine l1 (mvi rfl) ?_
        first | refine l1 (addn rfl rfl (ri (by omega) (by omega))) ?_ | refine l1 (add rfl rfl) ?_
        refine l1 (asg rfl) ?_
        refine lnil ?_
        exact nI (i + 1) (by show i + 1 ≤ L2.length; omega) (by show L2.length - (i + 1) < L2.length - i; omega) ⟨rfl, rfl, rfl, by rw [cnt_t hlt1 hs1]; rfl, rfl, trivial⟩ (List.Sublist.refl _)
      · have hs1 : showsB (fz true) (L1.getD i iz) = false := by (rw [shows_core _ (map_nrm hnm hlt1), shows_all]; exact h3)
        refine cskip ?_
        refine nblkN ?_
        refine nthen ?_
        refine creg ?_
        refine l1 (mvi rfl) ?_
        first | refine l1 (addn rfl rfl (ri (by omega) (by omega))) ?_ | refine l1 (add rfl rfl) ?_
        refine l1 (asg rfl) ?_
        refine lnil ?_
        exact nI (i + 1) (by show i + 1 ≤ L2.length; omega) (by show L2.length - (i + 1) < L2.length - i; omega) ⟨rfl, rfl, rfl, by rw [cnt_f hlt1 hs1]; rfl, rfl, trivial⟩ (List.Sublist.refl _)
    · have hend : decide (((((L1.take i).filter (showsB (fz true))).length : Nat) : Int) = (((L1.filter (showsB (fz true))).length : Nat) : Int)) = true := by (rw [cnt_end (showsB (fz true)) L1 (by have := df h2; have := hsm.1; omega)]; simp)
      refine cexit ?_
      refine nthenE ?_
      refine nIE ?_
      refine nblkE ?_
      refine nthen ?_
      refine cseq ?_
      refine creg ?_
      refine l1 (mvi rfl) ?_
      refine l1 (mvs rfl) ?_
      refine l1 (lens sl90 rfl rfl) ?_
      refine l1 (eql rfl rfl) ?_
      refine l1 (mvb rfl) ?_
      refine l1g rfl (gwt rfl) (fun h => bld0 bk96z) ?_
      refine l1g rfl (gwt rfl) (fun h => mvs rfl) ?_
      refine lclmg rfl (gwt rfl) hb58 rfl (fun h => (mc (gvt h) (mc (gvt h) mn)) ) (fun h w' hw => shown_calls w' (fz false) (fzIn _ _) (by show 0 ≤ 100; decide) p n c l (by omega) (Sl.keptS hl hw) (fun i hi => (hx i hi).keptS hw) kx hfx) ?_
      rintro v63 H63 k63
      obtain ⟨p9, c9, rfl⟩ : ∃ p9 c9, v63 = .slice p9 0 c9 := by (obtain ⟨L9, oe9, tl9, _, hO9, _⟩ := k63 hend; have e9 : L9.filter (showsB (fz false)) = [] := List.filter_eq_nil_iff.2 (fun x _ => by rw [shows_none]; simp); rw [e9] at hO9; exact hO9.form)
      refine l1g rfl (gwt rfl) (fun h => lens sl90 rfl (gvt h)) ?_
      refine l1g rfl (gwt rfl) (fun h => eql (gvt h) rfl) ?_
      refine l1 (pk_and rfl rfl rfl) ?_
      refine l1 (asg rfl) ?_
      refine lnil ?_
      refine nthen ?_
      refine cret ?_
      exact fin1b rfl rfl (by first | rfl | (rw [hend]; rfl))

set_option maxHeartbeats 2000000 in
theorem fshown_law (w : World) (F0 : Flt) (hF : FlIn w F0) (hFn0 : (F0.fn : Int) ≤ 9223372036854775807) (p : Option Addr) (n c : Nat) (l : Nat → Rw) (hn : (n : Int) ≤ 9223372036854775807) (hl : Sl w p n 130 (fun i => encR (l i))) (hx : ∀ i, i < n → RwIn w (l i)) (kx : ∀ i, i < n → RwOk (l i)) : Calls Try.prog 19 #[.agg (encF F0).toArray, .slice p n c] w (Ret (.bool true) w) := by
  refine fn_calls (n := 77) Try.func19 rfl rfl (lb rfl) ?_
  refine cseq ?_
  refine creg ?_
  refine lbxa rfl (fun b1 => ?_)
  refine l1 (asg rfl) ?_
  refine lnil ?_
  refine nthen ?_
  refine cseq ?_
  refine cseq ?_
  refine creg ?_
  refine l1 (cl hb57 rfl mn (fun w hw => awake19_calls w)) ?_
  refine l1 (nt rfl) ?_
  refine l1 (mvb rfl) ?_
  refine l1g rfl (gwf rfl) (fun h => ldw 0 Try.isAgg96 Try.sizeOf96 rfl rfl rfl) ?_
  refine l1g rfl (gwf rfl) (fun h => cl hb59 rfl (mc (gvt h) mn) (fun w hw => fewF_calls w F0 (Sl.keptS hF hw) hFn0)) ?_
  refine l1g rfl (gwf rfl) (fun h => nt (gvt h)) ?_
  refine l1 (pk_or rfl rfl rfl) ?_
  refine l1 (mvb rfl) ?_
  refine l1g rfl (gwf rfl) (fun h => mvs rfl) ?_
  refine l1g rfl (gwf rfl) (fun h => cl hb48 rfl (mc (gvt h) (mc rfl mn)) (fun w hw => fewrows_calls w p n c l 30 hn (Sl.keptS hl hw) (fun i hi => (hx i hi).keptS hw) kx)) ?_
  refine l1g rfl (gwf rfl) (fun h => nt (gvt h)) ?_
  refine l1 (pk_or rfl rfl rfl) ?_
  refine lnil ?_
  refine nthen ?_
  refine cif rfl (fun h1 => ?_) (fun h1 => ?_)
  · skip
    refine cseq ?_
    refine creg ?_
    refine l1 (cl hb57 rfl mn (fun w hw => awake19_calls w)) ?_
    refine l1 (asg rfl) ?_
    refine lnil ?_
    refine nthen ?_
    refine cret ?_
    refine nthenR ?_
    exact fin1b rfl rfl (by first | rfl | (rw [hend]))
  · have hF0 : fewR l n 30 = true := by (simp at h1; exact h1.2)
    have hFf : fewF F0 = true := by (simp at h1; exact h1.1)
    have hFn : F0.fn ≤ 100 := Nat.le_trans (fewF_fn hFf) (by decide)
    have hn40 := (fewR_row hF0 (by decide)).1
    have hfx : ∀ i, i < n → (l i).hd.tn ≤ 20 ∧ (l i).ch.gn ≤ 20 := fun i hi => fewRow_le ((fewR_row hF0 (by decide)).2 i hi)
    have hcl := counted_len l n
    refine cskip ?_
    refine nthen ?_
    refine cseq ?_
    refine creg ?_
    refine l1 (ldw 0 Try.isAgg96 Try.sizeOf96 rfl rfl rfl) ?_
    refine l1 (mvs rfl) ?_
    refine lclm hb58 rfl (mc rfl (mc rfl mn)) (fun w' hw => shown_calls w' F0 (Sl.keptS hF hw) hFn p n c l (by omega) (Sl.keptS hl hw) (fun i hi => (hx i hi).keptS hw) kx hfx) ?_
    rintro v1 H1 ⟨L1, oe1, tl1, rfl, hO1, hM1, hP1, hS1⟩
    obtain ⟨p1, c1, rfl⟩ := hO1.form
    have hH1 := fold_hd hP1 (cnt_ok kx)
    have hG1 := fold_gn (m := 20) hP1 (cnt_gn (fun i hi => (hfx i hi).2))
    have hLl1 := fold_len hP1
    refine l1 (asg rfl) ?_
    refine lnil ?_
    refine nthen ?_
    refine cseq ?_
    refine creg ?_
    refine l1 (mvs rfl) ?_
    refine lclm hb51 rfl (mc rfl mn) (fun w' hw => counting_calls w' p n c l (by omega) (Sl.keptS hl hw) (fun i hi => (hx i hi).keptS hw) kx) ?_
    rintro v6 H6 k6
    obtain ⟨p6, c6, rfl⟩ := k6.form
    refine wl_tail 1 ?_
    refine l1 (asg rfl) ?_
    refine lnil ?_
    refine nthen ?_
    refine cseq ?_
    refine creg ?_
    refine l1 (mvs rfl) ?_
    refine lclm hb60 rfl (mc rfl mn) (fun w' hw => tokens_calls w' p6 (counted l n).length c6 (counted l n) rfl (by omega) (SlIn.sl (k6.slInL (el := fun i => encR ((counted l n).getD i rz)) (fun a => rfl) (fun i hi => ⟨_, getD_getR hi, rfl⟩)) (hw.sub (List.Sublist.cons _ (List.sublist_append_right _ H6))))) ?_
    rintro v7 H7 k7
    obtain ⟨p7, c7, rfl⟩ := k7.form
    refine wl_tail 1 ?_
    obtain ⟨hTl, hTi⟩ := tok_item hP1 hS1
    refine l1 (asg rfl) ?_
    refine lnil ?_
    refine nthen ?_
    refine cseq ?_
    refine creg ?_
    refine l1 (asg rfl) ?_
    refine lnil ?_
    refine nthen ?_
    refine cseq ?_
    refine cseq ?_
    refine creg ?_
    refine l1 (asg rfl) ?_
    refine lnil ?_
    refine nthen ?_
    refine cblock ?_
    refine cloopI (σ := Nat) (fun s => [(2, .pointer (some ⟨b1, 0, none⟩)), (5, .slice p1 (L1.filter (showsB F0)).length c1), (6, .slice p6 (counted l n).length c6), (7, .slice p7 (outT (counted l n) (counted l n).length).length c7), (8, .int .i64 (((L1.take s).filter (showsB F0)).length : Int)), (9, .int .i64 (s : Int))]) (fun s => ([⟨b1, encF F0, 96⟩] ++ (((oe1 ++ tl1) ++ H6) ++ H7))) (fun s => s ≤ L1.length) (fun s => L1.length - s) 0 (Nat.zero_le _) ⟨rfl, rfl, rfl, rfl, rfl, rfl, trivial⟩ (List.Sublist.refl _) ?_
    rintro i j hi
    show WC _ _ _ (⟨b1, encF F0, 96⟩ :: (((oe1 ++ tl1) ++ H6) ++ H7)) _ _ (over j [(2, .pointer (some ⟨b1, 0, none⟩)), (5, .slice p1 (L1.filter (showsB F0)).length c1), (6, .slice p6 (counted l n).length c6), (7, .slice p7 (outT (counted l n) (counted l n).length).length c7), (8, .int .i64 (((L1.take i).filter (showsB F0)).length : Int)), (9, .int .i64 (i : Int))])
    replace hi : i ≤ L1.length := hi; have hfle := filter_le (showsB F0) L1 i; have hfl1 := List.length_filter_le (showsB F0) L1
    refine cseq ?_
    refine cseq ?_
    refine creg ?_
    refine l1 (mvi rfl) ?_
    refine l1 (mvs rfl) ?_
    refine l1 (lens sl35 rfl rfl) ?_
    refine l1 (lss rfl rfl) ?_
    refine lnil ?_
    refine nthen ?_
    refine cif rfl (fun h2 => ?_) (fun h2 => ?_)
    · have hlt : i < L1.length := by (have := dt h2; omega)
      obtain ⟨hX2, hXe0⟩ := hTi i hlt
      have hXe : nrmI (coreI (oI ((outT (counted l n) (counted l n).length).getD i t0) (counted l n)).1) = nrmI (coreI (L1.getD i iz)) := hXe0
      have hltT : i < (outT (counted l n) (counted l n).length).length := by omega
      obtain ⟨gT, hpT, hmT⟩ := own_el (f := fun t => arr .u8 16 t) t0 (fun a => rfl) k7 rfl hltT
      refine cskip ?_
      refine nthen ?_
      refine cseq ?_
      refine cblock ?_
      refine cseq ?_
      refine creg ?_
      refine l1 (mvs rfl) ?_
      refine l1 (mvs rfl) ?_
      refine l1 (mvi rfl) ?_
      refine l1 (isp sl35 hpT rfl rfl (by omega) (by omega)) ?_
      refine l1 (ldam (vs := arr .u8 16 ((outT (counted l n) (counted l n).length).getD i t0)) Try.isAgg34 Try.sizeOf34 rfl rfl (fun w' hw => hmT _ _ _ hw (List.Sublist.cons _ (List.sublist_append_right _ H7)))) ?_
      refine l1 (cl (v := .tuple #[.agg (encI (oI ((outT (counted l n) (counted l n).length).getD i t0) (counted l n)).1).toArray, .bool (oI ((outT (counted l n) (counted l n).length).getD i t0) (counted l n)).2]) hb52 rfl (mc rfl (mc rfl mn)) (fun w' hw => rof_calls w' ((outT (counted l n) (counted l n).length).getD i t0) p6 (counted l n).length c6 (counted l n) rfl (by omega) (SlIn.sl (k6.slInL (el := fun i => encR ((counted l n).getD i rz)) (fun a => rfl) (fun i hi => ⟨_, getD_getR hi, rfl⟩)) (hw.sub (List.Sublist.cons _ ((List.sublist_append_right (oe1 ++ tl1) H6).trans (List.sublist_append_left _ _))))))) ?_
      refine l1 (mv rfl) ?_
      refine l1 (ext (vs := [.agg (encI (oI ((outT (counted l n) (counted l n).length).getD i t0) (counted l n)).1).toArray, .bool (oI ((outT (counted l n) (counted l n).length).getD i t0) (counted l n)).2]) rfl rfl) ?_
      refine l1 (ext (vs := [.agg (encI (oI ((outT (counted l n) (counted l n).length).getD i t0) (counted l n)).1).toArray, .bool (oI ((outT (counted l n) (counted l n).length).getD i t0) (counted l n)).2]) rfl rfl) ?_
      refine lal (zs := encI iz) Try.zeroValue83 rfl (fun b2 => ?_)
      refine wl_perm (ins_perm 1 _ _) ?_
      refine lstw 1 rfl rfl rfl Try.sizeOf83 rfl rfl rfl ?_
      refine l1 (asg rfl) ?_
      refine lnil ?_
      refine nthen ?_
      refine cseq ?_
      refine cseq ?_
      refine cregq mo (by kernel_rfl) ?_
      refine q1 (ldw 0 Try.isAgg96 Try.sizeOf96 rfl rfl rfl) ?_
      refine q1 (ldw 1 Try.isAgg83 Try.sizeOf83 rfl rfl rfl) ?_
      refine q1 (cl hb61 rfl (mc rfl (mc rfl mn)) (fun w hw => shows_calls w F0 (Sl.keptS hF hw) hFn (oI ((outT (counted l n) (counted l n).length).getD i t0) (counted l n)).1 (oI_in (fun i hi => (hx i hi).keptS hw)) (Nat.le_trans (oI_gn (k := 20) (fun i hi => (hfx i hi).2)) (by decide)))) ?_
      refine q1 (ldw 0 Try.isAgg96 Try.sizeOf96 rfl rfl rfl) ?_
      refine q1 (ldw 1 Try.isAgg83 Try.sizeOf83 rfl rfl rfl) ?_
      refine q1 (cl hb62 rfl (mc rfl (mc rfl mn)) (fun w hw => rshows_calls w F0 (Sl.keptS hF hw) hFn (oI ((outT (counted l n) (counted l n).length).getD i t0) (counted l n)).1 (oI_in (fun i hi => (hx i hi).keptS hw)) (Nat.le_trans (oI_gn (k := 20) (fun i hi => (hfx i hi).2)) (by decide)))) ?_
      refine q1 (neqb Try.underlying4 rfl rfl) ?_
      refine qnil ?_
      refine nthen ?_
      refine ciff (bf rfl (by rw [rshows_eq]; simp)) ?_
      refine cskip ?_
      refine nthen ?_
      refine cseq ?_
      refine cseq ?_
      refine creg ?_
      refine l1 (ldw 0 Try.isAgg96 Try.sizeOf96 rfl rfl rfl) ?_
      refine l1 (ldw 1 Try.isAgg83 Try.sizeOf83 rfl rfl rfl) ?_
      refine l1 (cl hb62 rfl (mc rfl (mc rfl mn)) (fun w hw => rshows_calls w F0 (Sl.keptS hF hw) hFn (oI ((outT (counted l n) (counted l n).length).getD i t0) (counted l n)).1 (oI_in (fun i hi => (hx i hi).keptS hw)) (Nat.le_trans (oI_gn (k := 20) (fun i hi => (hfx i hi).2)) (by decide)))) ?_
      refine l1 (nt rfl) ?_
      refine lnil ?_
      refine nthen ?_
      refine cif rfl (fun h3 => ?_) (fun h3 => ?_)
      · have hs1 : showsB F0 (L1.getD i iz) = false := by (rw [← shows_core F0 hXe, ← rshows_eq]; simpa using h3)
        refine cexit ?_
        refine nthenE ?_
        refine nblkE ?_
        refine nthen ?_
        refine creg ?_
        refine l1 (mvi rfl) ?_
        first | refine l1 (addn rfl rfl (ri (by omega) (by omega))) ?_ | refine l1 (add rfl rfl) ?_
        refine l1 (asg rfl) ?_
        refine lnil ?_
        exact nI (i + 1) (by show i + 1 ≤ L1.length; omega) (by show L1.length - (i + 1) < L1.length - i; omega) ⟨rfl, rfl, rfl, rfl, by rw [cnt_f hlt hs1]; rfl, rfl, trivial⟩ (List.Sublist.cons_cons _ (List.Sublist.cons _ (List.Sublist.refl _)))
      · have hs1 : showsB F0 (L1.getD i iz) = true := by (rw [← shows_core F0 hXe, ← rshows_eq]; simpa using h3)
        have hat := at_lt hlt hs1
        obtain ⟨g1x, hp1, hm1⟩ := own_itm hO1 rfl hat.1
        refine cskip ?_
        refine nthen ?_
        refine cseq ?_
        refine cseq ?_
        refine cregq mo (by kernel_rfl) ?_
        refine q1 (mvi rfl) ?_
        refine q1 (mvs rfl) ?_
        refine q1 (lens sl90 rfl rfl) ?_
        refine q1 (geq rfl rfl) ?_
        refine q1 (mvb rfl) ?_
        refine q1g rfl (gwf rfl) (fun h => mvs rfl) ?_
        refine q1g rfl (gwf rfl) (fun h => mvi rfl) ?_
        refine q1g rfl (gwf rfl) (fun h => isp sl90 hp1 (gvt h) (gvt h) (by omega) (by have := hat.1; omega)) ?_
        refine q1g rfl (gwf rfl) (fun h => ldam (vs := encI (L1.getD i iz)) Try.isAgg83 Try.sizeOf83 (gvt h) rfl (fun w' hw => by (have h9 := hm1 _ _ _ hw (List.Sublist.cons _ (List.Sublist.cons _ (((List.sublist_append_left oe1 tl1).trans (List.sublist_append_left _ _)).trans (List.sublist_append_left _ _)))); rwa [hat.2] at h9))) ?_
        refine q1g rfl (gwf rfl) (fun h => ldw 1 Try.isAgg83 Try.sizeOf83 rfl rfl rfl) ?_
        refine q1g rfl (gwf rfl) (fun h => cl hb53 rfl (mc (gvt h) (mc (gvt h) mn)) (fun w hw => rsameI_calls (L1.getD i iz) (oI ((outT (counted l n) (counted l n).length).getD i t0) (counted l n)).1 w ((hM1 _ (getD_memI hlt)).sat (hw.sub (List.Sublist.cons _ (List.Sublist.cons _ (((List.sublist_append_right oe1 tl1).trans (List.sublist_append_left _ _)).trans (List.sublist_append_left _ _)))))) (oI_in (fun i hi => (hx i hi).keptS hw)) (hH1 _ (getD_memI hlt)) (oI_ok kx) (by have := hG1 _ (getD_memI hlt); omega))) ?_
        refine q1g rfl (gwf rfl) (fun h => nt (gvt h)) ?_
        refine q1 (pk_or rfl rfl rfl) ?_
        refine qnil ?_
        refine nthen ?_
        refine ciff (bf rfl (by rw [rsame_nrm hXe.symm, decide_eq_false (by have := hat.1; omega)]; rfl)) ?_
        refine cskip ?_
        refine nthen ?_
        refine creg ?_
        refine l1 (mvi rfl) ?_
        refine l1 (addn rfl rfl (ri (by have := hat.1; omega) (by have := hat.1; omega))) ?_
        refine l1 (asg rfl) ?_
        refine lnil ?_
        refine nblkN ?_
        refine nthen ?_
        refine creg ?_
        refine l1 (mvi rfl) ?_
        first | refine l1 (addn rfl rfl (ri (by omega) (by omega))) ?_ | refine l1 (add rfl rfl) ?_
        refine l1 (asg rfl) ?_
        refine lnil ?_
        exact nI (i + 1) (by show i + 1 ≤ L1.length; omega) (by show L1.length - (i + 1) < L1.length - i; omega) ⟨rfl, rfl, rfl, rfl, by rw [cnt_t hlt hs1]; rfl, rfl, trivial⟩ (List.Sublist.cons_cons _ (List.Sublist.cons _ (List.Sublist.refl _)))
    · have hend : decide (((((L1.take i).filter (showsB F0)).length : Nat) : Int) = (((L1.filter (showsB F0)).length : Nat) : Int)) = true := by (rw [cnt_end (showsB F0) L1 (by have := df h2; omega)]; simp)
      refine cexit ?_
      refine nthenE ?_
      refine nIE ?_
      refine nblkE ?_
      refine nthen ?_
      refine cseq ?_
      refine creg ?_
      refine l1 (mvi rfl) ?_
      refine l1 (mvs rfl) ?_
      refine l1 (lens sl90 rfl rfl) ?_
      refine l1 (eql rfl rfl) ?_
      refine l1 (asg rfl) ?_
      refine lnil ?_
      refine nthen ?_
      refine cret ?_
      exact fin1b rfl rfl (by first | rfl | (rw [hend]))

set_option maxHeartbeats 2000000 in
theorem fwider_law (w : World) (xa xb : Flt) (hA : FlIn w xa) (hAn0 : (xa.fn : Int) ≤ 9223372036854775807) (hB : FlIn w xb) (hBn0 : (xb.fn : Int) ≤ 9223372036854775807) (p : Option Addr) (n c : Nat) (l : Nat → Rw) (hn : (n : Int) ≤ 9223372036854775807) (hl : Sl w p n 130 (fun i => encR (l i))) (hx : ∀ i, i < n → RwIn w (l i)) (kx : ∀ i, i < n → RwOk (l i)) : Calls Try.prog 20 #[.agg (encF xa).toArray, .agg (encF xb).toArray, .slice p n c] w (Ret (.bool true) w) := by
  refine fn_calls (n := 74) Try.func20 rfl rfl (lb rfl) ?_
  refine cseq ?_
  refine creg ?_
  refine lbxa rfl (fun b1 => ?_)
  refine lbxa rfl (fun b2 => ?_)
  refine l1 (asg rfl) ?_
  refine lnil ?_
  refine nthen ?_
  refine cseq ?_
  refine cseq ?_
  refine creg ?_
  refine l1 (cl hb57 rfl mn (fun w hw => awake19_calls w)) ?_
  refine l1 (nt rfl) ?_
  refine l1 (mvb rfl) ?_
  refine l1g rfl (gwf rfl) (fun h => ldw 0 Try.isAgg96 Try.sizeOf96 rfl rfl rfl) ?_
  refine l1g rfl (gwf rfl) (fun h => cl hb59 rfl (mc (gvt h) mn) (fun w hw => fewF_calls w xa (Sl.keptS hA hw) hAn0)) ?_
  refine l1g rfl (gwf rfl) (fun h => nt (gvt h)) ?_
  refine l1 (pk_or rfl rfl rfl) ?_
  refine l1 (mvb rfl) ?_
  refine l1g rfl (gwf rfl) (fun h => ldw 1 Try.isAgg96 Try.sizeOf96 rfl rfl rfl) ?_
  refine l1g rfl (gwf rfl) (fun h => cl hb59 rfl (mc (gvt h) mn) (fun w hw => fewF_calls w xb (Sl.keptS hB hw) hBn0)) ?_
  refine l1g rfl (gwf rfl) (fun h => nt (gvt h)) ?_
  refine l1 (pk_or rfl rfl rfl) ?_
  refine l1 (mvb rfl) ?_
  refine l1g rfl (gwf rfl) (fun h => mvs rfl) ?_
  refine l1g rfl (gwf rfl) (fun h => cl hb48 rfl (mc (gvt h) (mc rfl mn)) (fun w hw => fewrows_calls w p n c l 25 hn (Sl.keptS hl hw) (fun i hi => (hx i hi).keptS hw) kx)) ?_
  refine l1g rfl (gwf rfl) (fun h => nt (gvt h)) ?_
  refine l1 (pk_or rfl rfl rfl) ?_
  refine lnil ?_
  refine nthen ?_
  refine cif rfl (fun h1 => ?_) (fun h1 => ?_)
  · skip
    refine cseq ?_
    refine creg ?_
    refine l1 (cl hb57 rfl mn (fun w hw => awake19_calls w)) ?_
    refine l1 (asg rfl) ?_
    refine lnil ?_
    refine nthen ?_
    refine cret ?_
    refine nthenR ?_
    exact fin1 rfl rfl
  · have hF0 : fewR l n 25 = true := by (simp at h1; exact h1.2)
    have hAn : xa.fn ≤ 100 := Nat.le_trans (fewF_fn (by simp at h1; exact h1.1.1)) (by decide)
    have hBn : xb.fn ≤ 100 := Nat.le_trans (fewF_fn (by simp at h1; exact h1.1.2)) (by decide)
    have hn40 := (fewR_row hF0 (by decide)).1
    have hfx : ∀ i, i < n → (l i).hd.tn ≤ 20 ∧ (l i).ch.gn ≤ 20 := fun i hi => fewRow_le ((fewR_row hF0 (by decide)).2 i hi)
    have hcl := counted_len l n
    refine cskip ?_
    refine nthen ?_
    refine cseq ?_
    refine creg ?_
    refine l1 (ldw 0 Try.isAgg96 Try.sizeOf96 rfl rfl rfl) ?_
    refine l1 (ldw 1 Try.isAgg96 Try.sizeOf96 rfl rfl rfl) ?_
    refine l1 (cl hb63 rfl (mc rfl (mc rfl mn)) (fun w hw => wider_calls w xa xb (Sl.keptS hA hw) hAn (Sl.keptS hB hw) hBn)) ?_
    refine l1 (asg rfl) ?_
    refine lnil ?_
    refine nthen ?_
    refine cseq ?_
    refine cseq ?_
    refine creg ?_
    refine l1 (mvb rfl) ?_
    refine l1 (ldw 0 Try.isAgg96 Try.sizeOf96 rfl rfl rfl) ?_
    refine l1 (ldw 1 Try.isAgg96 Try.sizeOf96 rfl rfl rfl) ?_
    refine l1 (cl hb64 rfl (mc rfl (mc rfl mn)) (fun w hw => rwider_calls w xa xb (Sl.keptS hA hw) hAn (Sl.keptS hB hw) hBn)) ?_
    refine l1 (neqb Try.underlying4 rfl rfl) ?_
    refine lnil ?_
    refine nthen ?_
    refine ciff (bf rfl (by rw [rwider_eq]; simp)) ?_
    refine cskip ?_
    refine nthen ?_
    refine cseq ?_
    refine cregH (fun x : List Ent => ⟨b1, encF xa, 96⟩ :: ⟨b2, encF xb, 96⟩ :: x) 8 mo rfl ?_
    refine hq1 0 rfl (by kernel_rfl) (by kernel_rfl) (by kernel_rfl) (fun c a w h => h) (.inl ⟨_, rfl⟩) (fun w hw => ⟨_, hw⟩) (fun T => ldw 0 Try.isAgg96 Try.sizeOf96 rfl rfl rfl) ?_
    refine hq1 1 rfl (by kernel_rfl) (by kernel_rfl) (by kernel_rfl) (fun c a w h => h) (.inr ⟨_, rfl⟩) (fun w hw => ⟨_, hw⟩) (fun T => mvs rfl) ?_
    refine hq1 3 rfl (by kernel_rfl) (by kernel_rfl) (by kernel_rfl) (fun c a w h => h) (.inl ⟨_, rfl⟩) (fun w hw => ⟨_, hw⟩) (fun T => ldw 1 Try.isAgg96 Try.sizeOf96 rfl rfl rfl) ?_
    refine hq1 4 rfl (by kernel_rfl) (by kernel_rfl) (by kernel_rfl) (fun c a w h => h) (.inr ⟨_, rfl⟩) (fun w hw => ⟨_, hw⟩) (fun T => mvs rfl) ?_
    refine he 2 (by kernel_rfl) rfl ?_
    refine lclm hb58 rfl (mc rfl (mc rfl mn)) (fun w' hw => shown_calls w' xa (Sl.keptS hA hw) hAn p n c l (by omega) (Sl.keptS hl hw) (fun i hi => (hx i hi).keptS hw) kx hfx) ?_
    rintro v1 H1 ⟨L1, oe1, tl1, rfl, hO1, hM1, hP1, hS1⟩
    obtain ⟨p1, c1, rfl⟩ := hO1.form
    have hH1 := fold_hd hP1 (cnt_ok kx)
    have hG1 := fold_gn (m := 20) hP1 (cnt_gn (fun i hi => (hfx i hi).2))
    have hLl1 := fold_len hP1
    refine hnil (fun w hw => ⟨_, hw⟩) ?_
    refine he 5 (by kernel_rfl) rfl ?_
    refine lclm hb58 rfl (mc rfl (mc rfl mn)) (fun w' hw => shown_calls w' xb (Sl.keptS hB hw) hBn p n c l (by omega) (Sl.keptS hl hw) (fun i hi => (hx i hi).keptS hw) kx hfx) ?_
    rintro v2 H2 ⟨L2, oe2, tl2, rfl, hO2, hM2, hP2, hS2⟩
    obtain ⟨p2, c2, rfl⟩ := hO2.form
    have hH2 := fold_hd hP2 (cnt_ok kx)
    have hG2 := fold_gn (m := 20) hP2 (cnt_gn (fun i hi => (hfx i hi).2))
    have hLl2 := fold_len hP2
    have hnm := fold_eq (List.Perm.refl _) hP1 hP2 hS1 hS2
    have hsm := map_same hnm
    have hfa := List.length_filter_le (showsB xa) L1
    have hfb := List.length_filter_le (showsB xb) L2
    refine wl_tail 2 ?_
    refine hnil (fun w hw => ⟨_, hw⟩) ?_
    refine hq1 6 rfl (by kernel_rfl) (by kernel_rfl) (by kernel_rfl) (fun c a w h => h) (.inr ⟨_, rfl⟩) (fun w hw => ⟨_, hw⟩) (fun T => asg rfl) ?_
    refine hq1 7 rfl (by kernel_rfl) (by kernel_rfl) (by kernel_rfl) (fun c a w h => h) (.inr ⟨_, rfl⟩) (fun w hw => ⟨_, hw⟩) (fun T => asg rfl) ?_
    refine hend (by kernel_rfl) ?_
    refine nthen ?_
    refine cseq ?_
    refine cseq ?_
    refine creg ?_
    refine l1 (asg rfl) ?_
    refine lnil ?_
    refine nthen ?_
    refine cblock ?_
    refine cloopI (σ := Nat) (fun s => [(7, .bool (widerB xa xb)), (8, .slice p1 (L1.filter (showsB xa)).length c1), (9, .slice p2 (L2.filter (showsB xb)).length c2), (10, .int .i64 (s : Int))]) (fun s => ([] ++ ((oe1 ++ tl1) ++ (oe2 ++ tl2)))) (fun s => s ≤ (L2.filter (showsB xb)).length) (fun s => (L2.filter (showsB xb)).length - s) 0 (Nat.zero_le _) ⟨rfl, rfl, rfl, rfl, trivial⟩ (List.Sublist.cons _ (List.Sublist.cons _ (List.Sublist.refl _))) ?_
    rintro i j hi
    show WC _ _ _ (((oe1 ++ tl1) ++ (oe2 ++ tl2))) _ _ (over j [(7, .bool (widerB xa xb)), (8, .slice p1 (L1.filter (showsB xa)).length c1), (9, .slice p2 (L2.filter (showsB xb)).length c2), (10, .int .i64 (i : Int))])
    replace hi : i ≤ (L2.filter (showsB xb)).length := hi
    refine cseq ?_
    refine cseq ?_
    refine creg ?_
    refine l1 (mvi rfl) ?_
    refine l1 (mvs rfl) ?_
    refine l1 (lens sl90 rfl rfl) ?_
    refine l1 (lss rfl rfl) ?_
    refine l1 (mvb rfl) ?_
    refine l1g rfl (gwt rfl) (fun h => mvb rfl) ?_
    refine l1 (pk_and rfl rfl rfl) ?_
    refine lnil ?_
    refine nthen ?_
    refine cif rfl (fun h2 => ?_) (fun h2 => ?_)
    · have hlt : i < (L2.filter (showsB xb)).length := by (have := al h2; simpa using this)
      have hwd : widerB xa xb = true := al2 h2
      obtain ⟨g2x, hp2, hm2⟩ := own_itm hO2 rfl hlt
      refine cskip ?_
      refine nthen ?_
      refine cseq ?_
      refine cblock ?_
      refine cseq ?_
      refine creg ?_
      refine l1 (asg rfl) ?_
      refine lnil ?_
      refine nthen ?_
      refine cseq ?_
      refine cseq ?_
      refine creg ?_
      refine l1 (asg rfl) ?_
      refine lnil ?_
      refine nthen ?_
      refine cblock ?_
      refine cloopI (σ := Nat) (fun s => [(7, .bool (widerB xa xb)), (8, .slice p1 (L1.filter (showsB xa)).length c1), (9, .slice p2 (L2.filter (showsB xb)).length c2), (10, .int .i64 (i : Int)), (11, .bool (anyR2 (fun q => rsameI ((L1.filter (showsB xa)).getD q iz) ((L2.filter (showsB xb)).getD i iz)) s)), (12, .int .i64 (s : Int))]) (fun s => ([] ++ ((oe1 ++ tl1) ++ (oe2 ++ tl2)))) (fun s => s ≤ (L1.filter (showsB xa)).length) (fun s => (L1.filter (showsB xa)).length - s) 0 (Nat.zero_le _) ⟨rfl, rfl, rfl, rfl, rfl, rfl, trivial⟩ (List.Sublist.refl _) ?_
      rintro k j hk
      show WC _ _ _ (((oe1 ++ tl1) ++ (oe2 ++ tl2))) _ _ (over j [(7, .bool (widerB xa xb)), (8, .slice p1 (L1.filter (showsB xa)).length c1), (9, .slice p2 (L2.filter (showsB xb)).length c2), (10, .int .i64 (i : Int)), (11, .bool (anyR2 (fun q => rsameI ((L1.filter (showsB xa)).getD q iz) ((L2.filter (showsB xb)).getD i iz)) k)), (12, .int .i64 (k : Int))])
      replace hk : k ≤ (L1.filter (showsB xa)).length := hk
      refine cseq ?_
      refine cseq ?_
      refine creg ?_
      refine l1 (mvi rfl) ?_
      refine l1 (mvs rfl) ?_
      refine l1 (lens sl90 rfl rfl) ?_
      refine l1 (lss rfl rfl) ?_
      refine lnil ?_
      refine nthen ?_
      refine cif rfl (fun h3 => ?_) (fun h3 => ?_)
      · have hkl : k < (L1.filter (showsB xa)).length := by (have := dt h3; omega)
        obtain ⟨g1x, hp1, hm1⟩ := own_itm hO1 rfl hkl
        refine cskip ?_
        refine nthen ?_
        refine cseq ?_
        refine cblock ?_
        refine cregq mo (by kernel_rfl) ?_
        refine q1 (mvb rfl) ?_
        refine q1 (mvb rfl) ?_
        refine q1g rfl (gwf rfl) (fun h => mvs rfl) ?_
        refine q1g rfl (gwf rfl) (fun h => mvi rfl) ?_
        refine q1g rfl (gwf rfl) (fun h => isp sl90 hp1 (gvt h) (gvt h) (by omega) (by omega)) ?_
        refine q1g rfl (gwf rfl) (fun h => ldam (vs := encI ((L1.filter (showsB xa)).getD k iz)) Try.isAgg83 Try.sizeOf83 (gvt h) rfl (fun w' hw => hm1 _ _ _ hw (List.Sublist.trans (List.sublist_append_left oe1 tl1) (List.sublist_append_left _ _)))) ?_
        refine q1g rfl (gwf rfl) (fun h => mvs rfl) ?_
        refine q1g rfl (gwf rfl) (fun h => mvi rfl) ?_
        refine q1g rfl (gwf rfl) (fun h => isp sl90 hp2 (gvt h) (gvt h) (by omega) (by omega)) ?_
        refine q1g rfl (gwf rfl) (fun h => ldam (vs := encI ((L2.filter (showsB xb)).getD i iz)) Try.isAgg83 Try.sizeOf83 (gvt h) rfl (fun w' hw => hm2 _ _ _ hw (List.Sublist.trans (List.sublist_append_left oe2 tl2) (List.sublist_append_right _ _)))) ?_
        refine q1g rfl (gwf rfl) (fun h => cl hb53 rfl (mc (gvt h) (mc (gvt h) mn)) (fun w hw => rsameI_calls ((L1.filter (showsB xa)).getD k iz) ((L2.filter (showsB xb)).getD i iz) w ((hM1 _ (filt_mem hkl)).sat (hw.sub (List.Sublist.trans (List.sublist_append_right oe1 tl1) (List.sublist_append_left _ _)))) ((hM2 _ (filt_mem hlt)).sat (hw.sub (List.Sublist.trans (List.sublist_append_right oe2 tl2) (List.sublist_append_right _ _)))) (hH1 _ (filt_mem hkl)) (hH2 _ (filt_mem hlt)) (by have := hG1 _ (filt_mem hkl); omega))) ?_
        refine q1 (pk_or rfl rfl rfl) ?_
        refine q1 (asg rfl) ?_
        refine qnil ?_
        refine nblkN ?_
        refine nthen ?_
        refine creg ?_
        refine l1 (mvi rfl) ?_
        first | refine l1 (addn rfl rfl (ri (by omega) (by omega))) ?_ | refine l1 (add rfl rfl) ?_
        refine l1 (asg rfl) ?_
        refine lnil ?_
        exact nI (k + 1) (by show k + 1 ≤ (L1.filter (showsB xa)).length; omega) (by show (L1.filter (showsB xa)).length - (k + 1) < (L1.filter (showsB xa)).length - k; omega) ⟨rfl, rfl, rfl, rfl, rfl, rfl, trivial⟩ (List.Sublist.refl _)
      · have hke : k = (L1.filter (showsB xa)).length := by (have := df h3; omega)
        refine cexit ?_
        refine nthenE ?_
        refine nIE ?_
        refine nblkE ?_
        refine nthen ?_
        refine cseq ?_
        refine creg ?_
        refine l1 (mvb rfl) ?_
        refine l1 (nt rfl) ?_
        refine lnil ?_
        refine nthen ?_
        refine ciff (bf rfl (by rw [hke, wid_found hwd hnm hlt]; rfl)) ?_
        refine cskip ?_
        refine nblkN ?_
        refine nthen ?_
        refine creg ?_
        refine l1 (mvi rfl) ?_
        first | refine l1 (addn rfl rfl (ri (by omega) (by omega))) ?_ | refine l1 (add rfl rfl) ?_
        refine l1 (asg rfl) ?_
        refine lnil ?_
        exact nI (i + 1) (by show i + 1 ≤ (L2.filter (showsB xb)).length; omega) (by show (L2.filter (showsB xb)).length - (i + 1) < (L2.filter (showsB xb)).length - i; omega) ⟨rfl, rfl, rfl, rfl, trivial⟩ (List.Sublist.refl _)
    · skip
      refine cexit ?_
      refine nthenE ?_
      refine nIE ?_
      refine nblkE ?_
      refine nthen ?_
      refine cseq ?_
      refine creg ?_
      refine l1 (asg rfl) ?_
      refine lnil ?_
      refine nthen ?_
      refine cret ?_
      exact fin1 rfl rfl
end Go.Proofs.Ytkdbjhlkahkobaa
/- what an argument that reads as data looks like in memory -/
namespace Jal
open Go Go.RowKit Go.ChangeShapes Go.WideShapes Go.ChangeAt
section
variable {H : Type} {enc : TypeId × Value → H} {P : Program} {w : World}
/-- cells that read as data of a type -/
def Dec (enc : TypeId × Value → H) (P : Program) (w : World) (t : TypeId) (cs : List Value) : Prop := ∃ fuel x, DataW.trod enc P w 0 (fun _ => true) true fuel t cs = some x
theorem Dec.of_trod {t : TypeId} {v : Value} {d : DataW H} {ps : List MemPlace} (h : DataW.Trod enc P w 0 (fun _ => true) true t v d ps) : Dec enc P w t v.cells.toList := by
  obtain ⟨f, hf⟩ := h; exact ⟨f, _, hf⟩
theorem wf_i64 {n : Int} (h : (Lit.int .i64 n).wf = true) : I64 n := by simpa [Lit.wf, IntKind.min, IntKind.max, IntKind.signed, IntKind.bits, I64] using h
theorem wf_u64 {n : Int} (h : (Lit.int .u64 n).wf = true) : U64 n := by simpa [Lit.wf, IntKind.min, IntKind.max, IntKind.signed, IntKind.bits, U64] using h
def U8 (n : Int) : Prop := 0 ≤ n ∧ n ≤ 255
theorem wf_u8 {n : Int} (h : (Lit.int .u8 n).wf = true) : U8 n := by simpa [Lit.wf, IntKind.min, IntKind.max, IntKind.signed, IntKind.bits, U8] using h
theorem Dec.int {t : TypeId} {cs : List Value} {k : IntKind} (h : Dec enc P w t cs) (ht : P.underlying t = some (.int k)) : ∃ n, cs = [.int k n] ∧ (Lit.int k n).wf = true := by
  obtain ⟨f, x, h⟩ := h
  obtain ⟨n, h1, _, h2⟩ := DataW.trod_int ht h
  exact ⟨n, h1, h2⟩
theorem Dec.bool {t : TypeId} {cs : List Value} (h : Dec enc P w t cs) (ht : P.underlying t = some .bool) : ∃ b, cs = [.bool b] := by
  obtain ⟨f, x, h⟩ := h
  obtain ⟨n, h1, _⟩ := DataW.trod_bool ht h
  exact ⟨n, h1⟩
theorem Dec.str {t : TypeId} {cs : List Value} (h : Dec enc P w t cs) (ht : P.underlying t = some .string) : ∃ s : ByteArray, cs = [.string s] ∧ s.size ≤ maxLen := by
  obtain ⟨f, x, h⟩ := h
  obtain ⟨n, h1, _, h2⟩ := DataW.trod_string ht h
  exact ⟨n, h1, h2⟩
theorem Dec.field {t : TypeId} {cs : List Value} {fs : Array Field} (h : Dec enc P w t cs) (ht : P.underlying t = some (.struct fs)) :
    cs.length = P.cellsOf t ∧ ∀ (i : Nat) (f : Field), fs[i]? = some f → Dec enc P w f.type ((cs.drop f.offset).take (P.cellsOf f.type)) := by
  obtain ⟨fu, x, h⟩ := h
  obtain ⟨xs, n, rfl, _, hl, hxl, hx⟩ := DataW.trod_struct ht h
  refine ⟨hl, fun i f hf => ?_⟩
  have := hx i f hf
  have hi : i < xs.length := by rw [hxl]; exact (Array.getElem?_eq_some_iff.1 hf).1
  rw [List.getElem?_eq_getElem hi] at this
  exact ⟨n, _, this⟩
theorem Dec.elem {t e : TypeId} {cs : List Value} {n : Nat} (h : Dec enc P w t cs) (ht : P.underlying t = some (.array n e)) :
    cs.length = P.cellsOf t ∧ ∀ i, i < n → Dec enc P w e ((cs.drop (i * P.cellsOf e)).take (P.cellsOf e)) := by
  obtain ⟨fu, x, h⟩ := h
  obtain ⟨xs, m, rfl, _, hl, hxl, hx⟩ := DataW.trod_array ht h
  refine ⟨hl, fun i hi => ?_⟩
  have := hx i hi
  rw [List.getElem?_eq_getElem (by omega)] at this
  exact ⟨m, _, this⟩
/-- an array of numbers -/
theorem Dec.arr {t e : TypeId} {cs : List Value} {n : Nat} {k : IntKind} (h : Dec enc P w t cs) (ht : P.underlying t = some (.array n e)) (he : P.underlying e = some (.int k)) (hc : P.cellsOf e = 1) (hl : P.cellsOf t = n) :
    ∃ f, cs = Jal.arr k n f ∧ ∀ i, i < n → (Lit.int k (f i)).wf = true := by
  obtain ⟨h1, h2⟩ := h.elem ht
  rw [hc] at h2
  obtain ⟨f, hf⟩ := Go.Deep.choose_lt (α := Int) (p := fun i m => (cs.drop (i * 1)).take 1 = [.int k m] ∧ (Lit.int k m).wf = true) (fun i hi => by
    obtain ⟨m, h3, h4⟩ := (h2 i hi).int he; exact ⟨m, h3, h4⟩)
  refine ⟨f, ?_, fun i hi => (hf i hi).2⟩
  apply List.ext_getElem?
  intro i
  unfold Jal.arr
  by_cases hi : i < n
  · have h3 := (hf i hi).1
    have h4 : (List.take 1 (List.drop (i * 1) cs))[0]? = some (.int k (f i)) := by rw [h3]; rfl
    rw [List.getElem?_take, if_pos (by omega), List.getElem?_drop, Nat.mul_one, Nat.add_zero] at h4
    rw [h4, List.getElem?_map, List.getElem?_range hi]; rfl
  · rw [List.getElem?_eq_none (by omega), List.getElem?_eq_none (by simpa using hi)]
theorem Dec.barr {t e : TypeId} {cs : List Value} {n : Nat} (h : Dec enc P w t cs) (ht : P.underlying t = some (.array n e)) (he : P.underlying e = some .bool) (hc : P.cellsOf e = 1) (hl : P.cellsOf t = n) :
    ∃ f, cs = Jal.barr n f := by
  obtain ⟨h1, h2⟩ := h.elem ht
  rw [hc] at h2
  obtain ⟨f, hf⟩ := Go.Deep.choose_lt (α := Bool) (p := fun i m => (cs.drop (i * 1)).take 1 = [.bool m]) (fun i hi => by
    obtain ⟨m, h3⟩ := (h2 i hi).bool he; exact ⟨m, h3⟩)
  refine ⟨f, ?_⟩
  apply List.ext_getElem?
  intro i
  unfold Jal.barr
  by_cases hi : i < n
  · have h3 := hf i hi
    have h4 : (List.take 1 (List.drop (i * 1) cs))[0]? = some (.bool (f i)) := by rw [h3]; rfl
    rw [List.getElem?_take, if_pos (by omega), List.getElem?_drop, Nat.mul_one, Nat.add_zero] at h4
    rw [h4, List.getElem?_map, List.getElem?_range hi]; rfl
  · rw [List.getElem?_eq_none (by omega), List.getElem?_eq_none (by simpa using hi)]
/-- a slice: what its elements' cells are -/
theorem Dec.slice {t e : TypeId} {a : Option Addr} {n c sz : Nat} {α : Type} [Inhabited α] {en : α → List Value} {ok : α → Prop} (h : Dec enc P w t [.slice a n c]) (ht : P.underlying t = some (.slice e))
    (hs : P.cellsOf e = sz) (h0 : 0 < sz) (hd : ∀ cs, Dec enc P w e cs → ∃ x, cs = en x ∧ ok x) :
    (n : Int) ≤ 9223372036854775807 ∧ ∃ l : Nat → α, Sl w a n sz (fun i => en (l i)) ∧ ∀ i, i < n → ok (l i) := by
  obtain ⟨fu, x, h⟩ := h
  rcases Go.Deep.open_slice ht h with ⟨hcs, _⟩ | ⟨ad, len, cap, m, f, D, Pl, hcs, _, hlc, hm, hmm, _, hx⟩
  · simp at hcs
    obtain ⟨rfl, rfl, rfl⟩ := hcs
    exact ⟨by omega, fun _ => default, ⟨.inl rfl⟩, fun i hi => by omega⟩
  · simp at hcs
    obtain ⟨rfl, rfl, rfl⟩ := hcs
    simp at hmm
    subst hmm
    have hel : ∀ i, i < n → ∃ y, (∃ cs', w.cells? 0 (ad.add (i * sz)) sz = some cs' ∧ cs' = en y) ∧ ok y := fun i hi => by
      obtain ⟨cs', h1, h2⟩ := hx i (by omega)
      rw [hs] at h1
      obtain ⟨y, rfl, hy⟩ := hd cs' ⟨_, _, h2⟩
      exact ⟨y, ⟨_, h1, rfl⟩, hy⟩
    obtain ⟨l, hl⟩ := Go.Deep.choose_lt hel
    refine ⟨by unfold maxLen at hm; omega, l, ⟨?_⟩, fun i hi => (hl i hi).2⟩
    by_cases hn : n = 0
    · exact .inl hn
    right
    have hc0 : ∀ i, i < n → ∀ j, j < sz → w.cell? ((ad.add (i * sz)).add j) = (en (l i))[j]? := fun i hi j hj => by
      obtain ⟨cs', h1, rfl⟩ := (hl i hi).1
      exact (World.cells?_some h1).2.2 j hj
    have hlen : ∀ i, i < n → (en (l i)).length = sz := fun i hi => by
      obtain ⟨cs', h1, rfl⟩ := (hl i hi).1
      exact (World.cells?_some h1).2.1
    obtain ⟨b, o, spot⟩ := ad
    have hcell0 := hc0 0 (by omega) 0 h0
    rw [List.getElem?_eq_getElem (by rw [hlen 0 (by omega)]; exact h0)] at hcell0
    have hspot : spot = none := by simpa [Addr.add] using World.cell?_spot hcell0
    subst hspot
    refine ⟨b, o, rfl, ?_, fun i hi j v hv => ?_⟩
    · have := World.block_lt_of_cell? w _ hcell0
      simpa [Addr.add] using this
    · have hj : j < sz := by rw [← hlen i hi]; exact (List.getElem?_eq_some_iff.1 hv).1
      have := hc0 i hi j hj
      rw [Addr.add_off] at this
      rw [this]; exact hv
theorem splitAt {cs A : List Value} {o k : Nat} (h : (cs.drop o).take k = A) : cs.drop o = A ++ cs.drop (o + k) := by
  rw [← h, ← List.drop_drop, List.take_append_drop]
end
end Jal
/- steps, read -/
namespace Go.Proofs.Ytkdbjhlkahkobaa
open Jal Go.RowKit
theorem cells3 : Try.prog.cellsOf 3 = 1 := by kernel_rfl
theorem cells4 : Try.prog.cellsOf 4 = 1 := by kernel_rfl
theorem cells5 : Try.prog.cellsOf 5 = 1 := by kernel_rfl
theorem cells22 : Try.prog.cellsOf 22 = 1 := by kernel_rfl
theorem cells45 : Try.prog.cellsOf 45 = 4 := by kernel_rfl
instance : Inhabited Stp := ⟨⟨0, 0, 0, 0⟩⟩
section
variable {H : Type} {enc : TypeId × Value → H} {w : World}
theorem dec45 {cs : List Value} (h : Dec enc Try.prog w 45 cs) : ∃ s, cs = encS s ∧ StpOk s := by
  obtain ⟨hl, hf⟩ := h.field Try.underlying45
  have f0 : Dec enc Try.prog w 3 ((cs.drop 0).take 1) := by have h0 : Dec enc Try.prog w 3 ((cs.drop 0).take (Try.prog.cellsOf 3)) := hf 0 _ rfl; rwa [cells3] at h0
  have f1 : Dec enc Try.prog w 3 ((cs.drop 1).take 1) := by have h0 : Dec enc Try.prog w 3 ((cs.drop 1).take (Try.prog.cellsOf 3)) := hf 1 _ rfl; rwa [cells3] at h0
  have f2 : Dec enc Try.prog w 3 ((cs.drop 2).take 1) := by have h0 : Dec enc Try.prog w 3 ((cs.drop 2).take (Try.prog.cellsOf 3)) := hf 2 _ rfl; rwa [cells3] at h0
  have f3 : Dec enc Try.prog w 22 ((cs.drop 3).take 1) := by have h0 : Dec enc Try.prog w 22 ((cs.drop 3).take (Try.prog.cellsOf 22)) := hf 3 _ rfl; rwa [cells22] at h0
  obtain ⟨n0, h0, w0⟩ := f0.int Try.underlying3
  obtain ⟨n1, h1, w1⟩ := f1.int Try.underlying3
  obtain ⟨n2, h2, w2⟩ := f2.int Try.underlying3
  obtain ⟨n3, h3, w3⟩ := f3.int Try.underlying22
  rw [cells45] at hl
  refine ⟨⟨n0, n1, n2, n3⟩, ?_, ⟨wf_i64 w0, wf_i64 w1, wf_i64 w2, wf_u64 w3⟩⟩
  show cs.drop 0 = _
  rw [splitAt h0, splitAt h1, splitAt h2, splitAt h3, List.drop_eq_nil_of_le (by omega)]
  rfl
end
end Go.Proofs.Ytkdbjhlkahkobaa
/- vectors, read -/
namespace Go.Proofs.Ytkdbjhlkahkobaa
open Jal Go.RowKit Go.WideShapes
set_option maxRecDepth 100000
theorem okWide_array {P : Program} {w : World} {r : Reach} {base : Nat} {t e : TypeId} {n : Nat} {v : Value} (ht : P.underlying t = some (.array n e)) (h : Value.okWide P w r base t v) : ∃ cs, v = .agg cs := by
  simp only [Value.okWide, ht] at h
  obtain ⟨cs, h1, _⟩ := h
  exact ⟨cs, h1⟩
theorem cells24 : Try.prog.cellsOf 24 = 6 := by kernel_rfl
theorem open24 {H : Type} {enc : TypeId × Value → H} {w : World} {base : Nat} {v : Value} (h : Value.okWide Try.prog w .any base 24 v) (e : Dec enc Try.prog w 24 v.cells.toList) :
    ∃ f, v = .agg (encV f).toArray ∧ ∀ i, i < 6 → U64 (f i) := by
  obtain ⟨cs, rfl⟩ := okWide_array Try.underlying24 h
  obtain ⟨f, h1, h2⟩ := e.arr Try.underlying24 Try.underlying22 cells22 cells24
  refine ⟨f, ?_, fun i hi => wf_u64 (h2 i hi)⟩
  have : cs.toList = encV f := h1
  rw [← this]
end Go.Proofs.Ytkdbjhlkahkobaa
/- headers, read -/
namespace Go.Proofs.Ytkdbjhlkahkobaa
open Jal Go.RowKit Go.WideShapes
set_option maxRecDepth 100000
instance : Inhabited Hd := ⟨⟨0, 0, fun _ => 0, 0, false, 0, fun _ => 0, none, 0, 0, fun _ _ => 0, fun _ => 0, fun _ => 0, 0, fun _ => 0⟩⟩
theorem cells32 : Try.prog.cellsOf 32 = 32 := by kernel_rfl
theorem cells34 : Try.prog.cellsOf 34 = 16 := by kernel_rfl
theorem cells35 : Try.prog.cellsOf 35 = 1 := by kernel_rfl
theorem cells23 : Try.prog.cellsOf 23 = 6 := by kernel_rfl
theorem cells37 : Try.prog.cellsOf 37 = 125 := by kernel_rfl
section
variable {H : Type} {enc : TypeId × Value → H} {w : World}
theorem decSlice0 {P : Program} {t e : TypeId} {cs : List Value} (h : Dec enc P w t cs) (ht : P.underlying t = some (.slice e)) : ∃ a n c, cs = [.slice a n c] := by
  obtain ⟨fu, x, h⟩ := h
  rcases Go.Deep.open_slice ht h with ⟨hcs, _⟩ | ⟨ad, len, cap, m, f, D, Pl, hcs, _⟩
  · exact ⟨_, _, _, hcs⟩
  · exact ⟨_, _, _, hcs⟩
theorem decToks {t e : TypeId} {cs : List Value} (h : Dec enc Try.prog w t cs) (ht : Try.prog.underlying t = some (.slice e)) (he : Try.prog.underlying e = some (.array 16 5)) (hc : Try.prog.cellsOf e = 16) :
    ∃ (a : Option Addr) (n c : Nat) (f : Nat → Nat → Int), cs = [.slice a n c] ∧ (n : Int) ≤ 9223372036854775807 ∧ Sl w a n 16 (fun i => arr .u8 16 (f i)) ∧ ∀ i, i < n → ∀ j, j < 16 → 0 ≤ f i j ∧ f i j ≤ 255 := by
  obtain ⟨a, n, c, rfl⟩ := decSlice0 h ht
  obtain ⟨h1, f, h2, h3⟩ := Dec.slice (α := Nat → Int) (en := fun f => arr .u8 16 f) (ok := fun f => ∀ j, j < 16 → 0 ≤ f j ∧ f j ≤ 255) h ht hc (by decide) (fun cs h => by
    obtain ⟨f, h1, h2⟩ := h.arr he Try.underlying5 cells5 hc
    exact ⟨f, h1, fun j hj => wf_u8 (h2 j hj)⟩)
  exact ⟨a, n, c, f, rfl, h1, h2, h3⟩
theorem dec37 {cs : List Value} (h : Dec enc Try.prog w 37 cs) : ∃ h, cs = encH h ∧ HdIn w h ∧ HdOk h := by
  obtain ⟨hl, hf⟩ := h.field Try.underlying37
  have f0 : Dec enc Try.prog w 3 ((cs.drop 0).take 1) := by have h0 : Dec enc Try.prog w 3 ((cs.drop 0).take (Try.prog.cellsOf 3)) := hf 0 _ rfl; rwa [cells3] at h0
  have f1 : Dec enc Try.prog w 22 ((cs.drop 1).take 1) := by have h0 : Dec enc Try.prog w 22 ((cs.drop 1).take (Try.prog.cellsOf 22)) := hf 1 _ rfl; rwa [cells22] at h0
  have f2 : Dec enc Try.prog w 32 ((cs.drop 2).take 32) := by have h0 : Dec enc Try.prog w 32 ((cs.drop 2).take (Try.prog.cellsOf 32)) := hf 2 _ rfl; rwa [cells32] at h0
  have f3 : Dec enc Try.prog w 3 ((cs.drop 34).take 1) := by have h0 : Dec enc Try.prog w 3 ((cs.drop 34).take (Try.prog.cellsOf 3)) := hf 3 _ rfl; rwa [cells3] at h0
  have f4 : Dec enc Try.prog w 4 ((cs.drop 35).take 1) := by have h0 : Dec enc Try.prog w 4 ((cs.drop 35).take (Try.prog.cellsOf 4)) := hf 4 _ rfl; rwa [cells4] at h0
  have f5 : Dec enc Try.prog w 22 ((cs.drop 36).take 1) := by have h0 : Dec enc Try.prog w 22 ((cs.drop 36).take (Try.prog.cellsOf 22)) := hf 5 _ rfl; rwa [cells22] at h0
  have f6 : Dec enc Try.prog w 34 ((cs.drop 37).take 16) := by have h0 : Dec enc Try.prog w 34 ((cs.drop 37).take (Try.prog.cellsOf 34)) := hf 6 _ rfl; rwa [cells34] at h0
  have f7 : Dec enc Try.prog w 35 ((cs.drop 53).take 1) := by have h0 : Dec enc Try.prog w 35 ((cs.drop 53).take (Try.prog.cellsOf 35)) := hf 7 _ rfl; rwa [cells35] at h0
  have f8 : Dec enc Try.prog w 23 ((cs.drop 54).take 6) := by have h0 : Dec enc Try.prog w 23 ((cs.drop 54).take (Try.prog.cellsOf 23)) := hf 8 _ rfl; rwa [cells23] at h0
  have f9 : Dec enc Try.prog w 32 ((cs.drop 60).take 32) := by have h0 : Dec enc Try.prog w 32 ((cs.drop 60).take (Try.prog.cellsOf 32)) := hf 9 _ rfl; rwa [cells32] at h0
  have f10 : Dec enc Try.prog w 3 ((cs.drop 92).take 1) := by have h0 : Dec enc Try.prog w 3 ((cs.drop 92).take (Try.prog.cellsOf 3)) := hf 10 _ rfl; rwa [cells3] at h0
  have f11 : Dec enc Try.prog w 32 ((cs.drop 93).take 32) := by have h0 : Dec enc Try.prog w 32 ((cs.drop 93).take (Try.prog.cellsOf 32)) := hf 11 _ rfl; rwa [cells32] at h0
  obtain ⟨n0, h0, w0⟩ := f0.int Try.underlying3
  obtain ⟨n1, h1, w1⟩ := f1.int Try.underlying22
  obtain ⟨n2, h2, w2⟩ := f2.arr Try.underlying32 Try.underlying5 cells5 cells32
  obtain ⟨n3, h3, w3⟩ := f3.int Try.underlying3
  obtain ⟨n4, h4⟩ := f4.bool Try.underlying4
  obtain ⟨n5, h5, w5⟩ := f5.int Try.underlying22
  obtain ⟨n6, h6, w6⟩ := f6.arr Try.underlying34 Try.underlying5 cells5 cells34
  obtain ⟨a, n, c, f, h7, w7, s7, t7⟩ := decToks f7 Try.underlying35 Try.underlying34 cells34
  obtain ⟨n8, h8, w8⟩ := f8.arr Try.underlying23 Try.underlying22 cells22 cells23
  obtain ⟨n9, h9, w9⟩ := f9.arr Try.underlying32 Try.underlying5 cells5 cells32
  obtain ⟨n10, h10, w10⟩ := f10.int Try.underlying3
  obtain ⟨n11, h11, w11⟩ := f11.arr Try.underlying32 Try.underlying5 cells5 cells32
  rw [cells37] at hl
  refine ⟨⟨n0, n1, n2, n3, n4, n5, n6, a, n, c, f, n8, n9, n10, n11⟩, ?_, s7, ⟨wf_i64 w0, wf_u64 w1, wf_i64 w3, wf_u64 w5, w7, fun i hi => wf_u64 (w8 i hi), wf_i64 w10, t7, fun i hi => wf_u8 (w6 i hi), fun i hi => wf_u8 (w2 i hi), fun i hi => wf_u8 (w9 i hi), fun i hi => wf_u8 (w11 i hi)⟩⟩
  show cs.drop 0 = _
  rw [splitAt h0, splitAt h1, splitAt h2, splitAt h3, splitAt h4, splitAt h5, splitAt h6, splitAt h7, splitAt h8, splitAt h9, splitAt h10, splitAt h11, List.drop_eq_nil_of_le (by omega)]
  simp only [encH, List.append_nil, List.singleton_append, List.cons_append, List.nil_append]
theorem open37 {base : Nat} {v : Value} (h : Value.okWide Try.prog w .any base 37 v) (e : Dec enc Try.prog w 37 v.cells.toList) :
    ∃ h, v = .agg (encH h).toArray ∧ HdIn w h ∧ HdOk h := by
  obtain ⟨cs, rfl, _⟩ := okWide_struct Try.underlying37 h
  obtain ⟨f, h1, h2⟩ := dec37 e
  refine ⟨f, ?_, h2⟩
  have : cs.toList = encH f := h1
  rw [← this]
end
end Go.Proofs.Ytkdbjhlkahkobaa
