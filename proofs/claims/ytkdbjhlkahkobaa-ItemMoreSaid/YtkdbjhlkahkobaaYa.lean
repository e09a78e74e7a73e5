/- walks, printed by a program of ours -/
import Derived.Test.YtkdbjhlkahkobaaTy
import Derived.Test.YtkdbjhlkahkobaaDef
import Derived.Test.YtkdbjhlkahkobaaWt
import Derived.Test.YtkdbjhlkahkobaaRws
namespace Go.Proofs.Ytkdbjhlkahkobaa
open Jal Go.RowKit
set_option maxRecDepth 100000
theorem name_calls (s : ByteArray) (w : World) : Calls Try.prog 120 #[.string s] w (Ret (.bool (nameB s)) w) := by
  refine fn_calls (n := 11) Try.func120 rfl rfl (lb rfl) ?_
  refine cseq ?_
  refine creg ?_
  refine l1 (asgb rfl) ?_
  refine lnil ?_
  refine nthen ?_
  refine cseq ?_
  refine creg ?_
  refine l1 (mvt rfl) ?_
  refine l1 (lenstr Try.underlying9 rfl rfl) ?_
  refine l1 (geq rfl rfl) ?_
  refine l1 (mvb rfl) ?_
  refine l1g rfl (gwt rfl) (fun h => mvt rfl) ?_
  refine l1g rfl (gwt rfl) (fun h => lenstr Try.underlying9 rfl (gvt h)) ?_
  refine l1g rfl (gwt rfl) (fun h => leq (gvt h) rfl) ?_
  refine l1 (pk_and rfl rfl rfl) ?_
  refine l1 (asgb rfl) ?_
  refine lnil ?_
  refine nthen ?_
  refine cret ?_
  exact fin1 rfl rfl

theorem rname_calls (s : ByteArray) (w : World) : Calls Try.prog 113 #[.string s] w (Ret (.bool (nameB s)) w) := by
  refine fn_calls (n := 11) Try.func113 rfl rfl (lb rfl) ?_
  refine cseq ?_
  refine creg ?_
  refine l1 (asgb rfl) ?_
  refine lnil ?_
  refine nthen ?_
  refine cseq ?_
  refine creg ?_
  refine l1 (mvt rfl) ?_
  refine l1 (lenstr Try.underlying9 rfl rfl) ?_
  refine l1 (geq rfl rfl) ?_
  refine l1 (mvb rfl) ?_
  refine l1g rfl (gwt rfl) (fun h => mvt rfl) ?_
  refine l1g rfl (gwt rfl) (fun h => lenstr Try.underlying9 rfl (gvt h)) ?_
  refine l1g rfl (gwt rfl) (fun h => leq (gvt h) rfl) ?_
  refine l1 (pk_and rfl rfl rfl) ?_
  refine l1 (asgb rfl) ?_
  refine lnil ?_
  refine nthen ?_
  refine cret ?_
  exact fin1 rfl rfl

theorem tags_calls (w : World) (p : Option Addr) (n c : Nat) (t : Nat → ByteArray) (hn : (n : Int) ≤ 9223372036854775807) (hl : Sl w p n 1 (fun i => encT (t i))) : Calls Try.prog 121 #[.slice p n c] w (Ret (.bool (tagsB n t && decide ((n : Int) ≤ 8))) w) := by
  refine fn_calls (n := 32) Try.func121 rfl rfl (lb rfl) ?_
  refine cseq ?_
  refine creg ?_
  refine l1 (asgb rfl) ?_
  refine lnil ?_
  refine nthen ?_
  refine cseq ?_
  refine cseq ?_
  refine creg ?_
  refine l1 (mvs rfl) ?_
  refine l1 (lens sl75 rfl rfl) ?_
  refine l1 (mvi rfl) ?_
  refine lnil ?_
  refine nthen ?_
  refine cblock ?_
  refine cloopI (σ := Nat) (fun s => [(0, .slice p n c), (5, .slice p n c), (6, .int .i64 (n : Int)), (7, .int .i64 (s : Int))]) (fun s => []) (fun s => s ≤ n ∧ ∀ j, j < s → tagBad t j = false) (fun s => n - s) 0 ⟨Nat.zero_le _, fun j hj => by omega⟩ ⟨rfl, rfl, rfl, rfl, trivial⟩ (List.Sublist.refl _) ?_
  rintro i j hI
  show WC _ _ _ ([]) _ _ (over j [(0, .slice p n c), (5, .slice p n c), (6, .int .i64 (n : Int)), (7, .int .i64 (i : Int))])
  replace hI : i ≤ n ∧ ∀ j, j < i → tagBad t j = false := hI
  refine cseq ?_
  refine creg ?_
  refine l1 (lss rfl rfl) ?_
  refine lnil ?_
  refine nthen ?_
  refine cseq ?_
  refine cif rfl (fun h1 => ?_) (fun h1 => ?_)
  · have hlt : i < n := by (have := dt h1; omega)
    obtain ⟨b, o, hp, hbl, hm⟩ := hl.at hlt
    refine cskip ?_
    refine nthen ?_
    refine cseq ?_
    refine cblock ?_
    refine cseq ?_
    refine creg ?_
    refine l1 (mvi rfl) ?_
    refine l1 (isp sl75 hp rfl rfl (by omega) (by omega)) ?_
    refine l1 (ldm (v := .string (t i)) Try.isAgg9 rfl (fun w' hw => ((hm i hlt).kept hw.below hbl).c0)) ?_
    refine l1 (asgi rfl) ?_
    refine l1 (asgt rfl) ?_
    refine lnil ?_
    refine nthen ?_
    refine cseq ?_
    refine creg ?_
    refine l1 (mvt rfl) ?_
    refine l1 (cl hb120 rfl (mc rfl mn) (fun w hw => name_calls _ w)) ?_
    refine l1 (nt rfl) ?_
    refine l1 (mvb rfl) ?_
    refine l1g rfl (gwf rfl) (fun h => mvi rfl) ?_
    refine l1g rfl (gwf rfl) (fun h => gtr (gvt h) rfl) ?_
    refine l1g rfl (gwf rfl) (fun h => mvb (gvt h)) ?_
    refine l1g rfl (ggt rfl) (fun h => mvs rfl) ?_
    refine l1g rfl (ggt rfl) (fun h => mvi rfl) ?_
    refine l1g rfl (ggt rfl) (fun h => subn (gvt h) rfl (ri (by omega) (by omega))) ?_
    refine l1g rfl (ggt rfl) (fun h => isp sl75 hp (gvt h) (gvt h) (by simp at h; omega) (by omega)) ?_
    refine l1g rfl (ggt rfl) (fun h => ldm (v := .string (t (i - 1))) Try.isAgg9 (gvt h) (fun w' hw => by rw [show ((i : Int) - 1).toNat = i - 1 from by omega]; exact ((hm (i - 1) (by omega)).kept hw.below hbl).c0)) ?_
    refine l1g rfl (ggt rfl) (fun h => mvt rfl) ?_
    refine l1g rfl (ggt rfl) (fun h => geqs (gvt h) (gvt h)) ?_
    refine l1g rfl (gwf rfl) (fun h => pk_and (gvt h) (gva h) rfl) ?_
    refine l1 (pk_or rfl rfl rfl) ?_
    refine lnil ?_
    refine nthen ?_
    refine cif rfl (fun h2 => ?_) (fun h2 => ?_)
    · change tagBad t i = _ at h2
      refine cseq ?_
      refine creg ?_
      refine l1 (asgb rfl) ?_
      refine lnil ?_
      refine nthen ?_
      refine cret ?_
      refine nblkR ?_
      refine nthenR ?_
      refine nIR ?_
      refine nblkR ?_
      refine nthenR ?_
      exact fin1b rfl rfl (by rw [tags_bad hlt h2]; rfl)
    · change tagBad t i = _ at h2
      refine cskip ?_
      refine nblkN ?_
      refine nthen ?_
      refine creg ?_
      first | refine l1 (addn rfl rfl (ri (by omega) (by omega))) ?_ | refine l1 (add rfl rfl) ?_
      refine l1 (mvi rfl) ?_
      refine lnil ?_
      exact nI (i + 1) ⟨by omega, fun j hj => (Nat.lt_succ_iff_lt_or_eq.1 hj).elim (fun h => hI.2 j h) (fun h => by subst h; exact h2)⟩ (by show n - (i + 1) < n - i; omega) ⟨rfl, rfl, rfl, rfl, trivial⟩ (List.Sublist.refl _)
  · skip
    refine cexit ?_
    refine nthenE ?_
    refine nIE ?_
    refine nblkE ?_
    refine nthen ?_
    refine cseq ?_
    refine creg ?_
    refine l1 (mvs rfl) ?_
    refine l1 (lens sl75 rfl rfl) ?_
    refine l1 (leq rfl rfl) ?_
    refine l1 (asgb rfl) ?_
    refine lnil ?_
    refine nthen ?_
    refine cret ?_
    exact fin1b rfl rfl (by rw [tags_good (fun j hj => hI.2 j (by have := df h1; omega))]; rfl)

theorem fch_calls (c : Ch) (w : World) (hc : ChIn w c) (kc : ChOk c) : Calls Try.prog 89 #[.agg (encCh c).toArray] w (Ret (.bool (fchB c)) w) := by
  refine fn_calls (n := 35) Try.func89 rfl rfl (lb rfl) ?_
  refine cseq ?_
  refine creg ?_
  refine lbxa rfl (fun b1 => ?_)
  refine l1 (asgb rfl) ?_
  refine lnil ?_
  refine nthen ?_
  refine cseq ?_
  refine cseq ?_
  refine creg ?_
  refine l1 (fa fa77_1 rfl) ?_
  refine l1 (ldc 0 Try.isAgg9 rfl rfl rfl) ?_
  refine l1 (cl hb120 rfl (mc rfl mn) (fun w hw => name_calls _ w)) ?_
  refine l1 (nt rfl) ?_
  refine l1 (mvb rfl) ?_
  refine l1g rfl (gwf rfl) (fun h => fa fa77_2 rfl) ?_
  refine l1g rfl (gwf rfl) (fun h => ldc 0 Try.isAgg75 rfl (gvt h) rfl) ?_
  refine l1g rfl (gwf rfl) (fun h => cl hb121 rfl (mc (gvt h) mn) (fun w hw => tags_calls w _ _ _ _ kc.n (Sl.keptS hc hw))) ?_
  refine l1g rfl (gwf rfl) (fun h => nt (gvt h)) ?_
  refine l1 (pk_or rfl rfl rfl) ?_
  refine l1 (mvb rfl) ?_
  refine l1g rfl (gwf rfl) (fun h => fa fa77_3 rfl) ?_
  refine l1g rfl (gwf rfl) (fun h => ldc 0 Try.isAgg9 rfl (gvt h) rfl) ?_
  refine l1g rfl (gwf rfl) (fun h => lenstr Try.underlying9 rfl (gvt h)) ?_
  refine l1g rfl (gwf rfl) (fun h => gtr (gvt h) rfl) ?_
  refine l1 (pk_or rfl rfl rfl) ?_
  refine lnil ?_
  refine nthen ?_
  refine cif rfl (fun h1 => ?_) (fun h1 => ?_)
  · skip
    refine cseq ?_
    refine creg ?_
    refine l1 (asgb rfl) ?_
    refine lnil ?_
    refine nthen ?_
    refine cret ?_
    refine nthenR ?_
    exact fin1b rfl rfl (by first | rfl | (simp only [fchB, h1, cond_true, cond_false]; done) | (simp only [fchB, h1, cond_true, cond_false]; rfl))
  · skip
    refine cskip ?_
    refine nthen ?_
    refine cseq ?_
    refine cseq ?_
    refine creg ?_
    refine l1 (fa fa77_0 rfl) ?_
    refine l1 (ldc 0 Try.isAgg3 rfl rfl rfl) ?_
    refine lnil ?_
    refine nthen ?_
    refine cblock ?_
    refine cseq ?_
    refine cblock ?_
    refine cseq ?_
    refine cblock ?_
    refine cseq ?_
    refine cseq ?_
    refine cseq ?_
    refine creg ?_
    refine l1 (eql rfl rfl) ?_
    refine l1 (asgb rfl) ?_
    refine lnil ?_
    refine nthen ?_
    refine cif rfl (fun h2 => ?_) (fun h2 => ?_)
    · skip
      refine cexit ?_
      refine nthenE ?_
      refine nthenE ?_
      refine nblkE ?_
      refine nthen ?_
      refine cseq ?_
      refine creg ?_
      refine l1 (fa fa77_2 rfl) ?_
      refine l1 (ldc 0 Try.isAgg75 rfl rfl rfl) ?_
      refine l1 (lens sl75 rfl rfl) ?_
      refine l1 (gtr rfl rfl) ?_
      refine lnil ?_
      refine nthen ?_
      refine cif rfl (fun h3 => ?_) (fun h3 => ?_)
      · skip
        refine cseq ?_
        refine creg ?_
        refine l1 (asgb rfl) ?_
        refine lnil ?_
        refine nthen ?_
        refine cret ?_
        refine nblkR ?_
        refine nthenR ?_
        refine nblkR ?_
        refine nthenR ?_
        exact fin1b rfl rfl (by first | rfl | (simp only [fchB, h1, h2, h3, cond_true, cond_false]; done) | (simp only [fchB, h1, h2, h3, cond_true, cond_false]; rfl))
      · skip
        refine cskip ?_
        refine nblkN ?_
        refine nthen ?_
        refine cseq ?_
        refine cseq ?_
        refine creg ?_
        refine l1 (fa fa77_3 rfl) ?_
        refine l1 (ldc 0 Try.isAgg9 rfl rfl rfl) ?_
        refine l1 (eqls rfl rfl) ?_
        refine l1 (asgb rfl) ?_
        refine lnil ?_
        refine nthen ?_
        refine cret ?_
        refine nthenR ?_
        refine nblkR ?_
        refine nthenR ?_
        exact fin1b rfl rfl (by first | rfl | (simp only [fchB, h1, h2, h3, cond_true, cond_false]; done) | (simp only [fchB, h1, h2, h3, cond_true, cond_false]; rfl))
    · skip
      refine cskip ?_
      refine nthen ?_
      refine cseq ?_
      refine creg ?_
      refine l1 (eql rfl rfl) ?_
      refine l1 (asgb rfl) ?_
      refine lnil ?_
      refine nthen ?_
      refine cif rfl (fun h4 => ?_) (fun h4 => ?_)
      · skip
        refine cexit ?_
        refine nthenE ?_
        refine nblkO (by decide) ?_
        refine nthenE ?_
        refine nblkE ?_
        refine nthen ?_
        refine cseq ?_
        refine cseq ?_
        refine creg ?_
        refine l1 (fa fa77_3 rfl) ?_
        refine l1 (ldc 0 Try.isAgg9 rfl rfl rfl) ?_
        refine l1 (eqls rfl rfl) ?_
        refine l1 (asgb rfl) ?_
        refine lnil ?_
        refine nthen ?_
        refine cret ?_
        refine nthenR ?_
        refine nblkR ?_
        refine nthenR ?_
        exact fin1b rfl rfl (by first | rfl | (simp only [fchB, h1, h2, h4, cond_true, cond_false]; done) | (simp only [fchB, h1, h2, h4, cond_true, cond_false]; rfl))
      · skip
        refine cskip ?_
        refine nthen ?_
        refine cexit ?_
        refine nblkO (by decide) ?_
        refine nthenE ?_
        refine nblkO (by decide) ?_
        refine nthenE ?_
        refine nblkE ?_
        refine nthen ?_
        refine cseq ?_
        refine creg ?_
        refine l1 (fa fa77_0 rfl) ?_
        refine l1 (ldc 0 Try.isAgg3 rfl rfl rfl) ?_
        refine l1 (eql rfl rfl) ?_
        refine l1 (asgb rfl) ?_
        refine lnil ?_
        refine nthen ?_
        refine cret ?_
        exact fin1b rfl rfl (by first | rfl | (simp only [fchB, h1, h2, h4, cond_true, cond_false]; done) | (simp only [fchB, h1, h2, h4, cond_true, cond_false]; rfl))

theorem blank_calls (c : Ch) (w : World) : Calls Try.prog 90 #[.agg (encCh c).toArray] w (Ret (.bool (blankB c)) w) := by
  refine fn_calls (n := 22) Try.func90 rfl rfl (lb rfl) ?_
  refine cseq ?_
  refine creg ?_
  refine lbxa rfl (fun b1 => ?_)
  refine l1 (asgb rfl) ?_
  refine lnil ?_
  refine nthen ?_
  refine cseq ?_
  refine creg ?_
  refine l1 (fa fa77_0 rfl) ?_
  refine l1 (ldc 0 Try.isAgg3 rfl rfl rfl) ?_
  refine l1 (eql rfl rfl) ?_
  refine l1 (mvb rfl) ?_
  refine l1g rfl (gwt rfl) (fun h => fa fa77_1 rfl) ?_
  refine l1g rfl (gwt rfl) (fun h => ldc 0 Try.isAgg9 rfl (gvt h) rfl) ?_
  refine l1g rfl (gwt rfl) (fun h => eqls (gvt h) rfl) ?_
  refine l1 (pk_and rfl rfl rfl) ?_
  refine l1 (mvb rfl) ?_
  refine l1g rfl (gwt rfl) (fun h => fa fa77_2 rfl) ?_
  refine l1g rfl (gwt rfl) (fun h => ldc 0 Try.isAgg75 rfl (gvt h) rfl) ?_
  refine l1g rfl (gwt rfl) (fun h => lens sl75 rfl (gvt h)) ?_
  refine l1g rfl (gwt rfl) (fun h => eql (gvt h) rfl) ?_
  refine l1 (pk_and rfl rfl rfl) ?_
  refine l1 (mvb rfl) ?_
  refine l1g rfl (gwt rfl) (fun h => fa fa77_3 rfl) ?_
  refine l1g rfl (gwt rfl) (fun h => ldc 0 Try.isAgg9 rfl (gvt h) rfl) ?_
  refine l1g rfl (gwt rfl) (fun h => eqls (gvt h) rfl) ?_
  refine l1 (pk_and rfl rfl rfl) ?_
  refine l1 (asgb rfl) ?_
  refine lnil ?_
  refine nthen ?_
  refine cret ?_
  exact fin1 rfl rfl

theorem rowformed_calls (x : Rw) (w : World) (hx : RwIn w x) (kx : RwOk x) : Calls Try.prog 54 #[.agg (encR x).toArray] w (Ret (.bool (formedR x)) w) := by
  refine fn_calls (n := 20) Try.func54 rfl rfl (lb rfl) ?_
  refine cseq ?_
  refine creg ?_
  refine lbxa rfl (fun b1 => ?_)
  refine l1 (asgb rfl) ?_
  refine lnil ?_
  refine nthen ?_
  refine cseq ?_
  refine cseq ?_
  refine creg ?_
  refine l1 (fa fa79_0 rfl) ?_
  refine l1 (lda 0 Try.isAgg37 Try.sizeOf37 rfl rfl (encR_hd _) rfl) ?_
  refine l1 (cl hb76 rfl (mc rfl mn) (fun w hw => hformed_calls _ w (Sl.keptS hx.h hw) kx.h)) ?_
  refine l1 (nt rfl) ?_
  refine l1 (mvb rfl) ?_
  refine l1g rfl (gwf rfl) (fun h => fa fa79_0 rfl) ?_
  refine l1g rfl (gwf rfl) (fun h => fa fa37_4 (gvt h)) ?_
  refine l1g rfl (gwf rfl) (fun h => ldc 0 Try.isAgg4 rfl (gvt h) rfl) ?_
  refine l1 (pk_or rfl rfl rfl) ?_
  refine lnil ?_
  refine nthen ?_
  refine cif rfl (fun h1 => ?_) (fun h1 => ?_)
  · skip
    refine cseq ?_
    refine creg ?_
    refine l1 (asgb rfl) ?_
    refine lnil ?_
    refine nthen ?_
    refine cret ?_
    refine nthenR ?_
    exact fin1b rfl rfl (by first | rfl | (simp only [formedR, h1, cond_true, cond_false]; done))
  · skip
    refine cskip ?_
    refine nthen ?_
    refine cseq ?_
    refine cseq ?_
    refine creg ?_
    refine l1 (fa fa79_1 rfl) ?_
    refine l1 (ldc 0 Try.isAgg4 rfl rfl rfl) ?_
    refine lnil ?_
    refine nthen ?_
    refine cif rfl (fun h2 => ?_) (fun h2 => ?_)
    · skip
      refine cseq ?_
      refine creg ?_
      refine l1 (fa fa79_2 rfl) ?_
      refine l1 (lda 0 Try.isAgg77 Try.sizeOf77 rfl rfl (encR_ch _) rfl) ?_
      refine l1 (cl hb89 rfl (mc rfl mn) (fun w hw => fch_calls _ w (Sl.keptS hx.c hw) kx.c)) ?_
      refine l1 (asgb rfl) ?_
      refine lnil ?_
      refine nthen ?_
      refine cret ?_
      refine nthenR ?_
      exact fin1b rfl rfl (by first | rfl | (simp only [formedR, h1, h2, cond_true, cond_false]; done))
    · skip
      refine cskip ?_
      refine nthen ?_
      refine cseq ?_
      refine creg ?_
      refine l1 (fa fa79_2 rfl) ?_
      refine l1 (lda 0 Try.isAgg77 Try.sizeOf77 rfl rfl (encR_ch _) rfl) ?_
      refine l1 (cl hb90 rfl (mc rfl mn) (fun w hw => blank_calls _ w)) ?_
      refine l1 (asgb rfl) ?_
      refine lnil ?_
      refine nthen ?_
      refine cret ?_
      exact fin1b rfl rfl (by first | rfl | (simp only [formedR, h1, h2, cond_true, cond_false]; done))

def rtagBad (t : Nat → ByteArray) (i : Nat) : Bool := !nameB (t i) || (decide ((i : Int) > 0) && (Op.bytesLess (t i).toList (t (i - 1)).toList || (t i).toList == (t (i - 1)).toList))
theorem rtag_eq (t : Nat → ByteArray) (i : Nat) : rtagBad t i = tagBad t i := by unfold rtagBad tagBad; rw [bl_total]
def rchB (c : Ch) : Bool := (((((decide (c.op < 1) || decide (c.op > 3)) || !nameB c.name) || decide ((c.gn : Int) > 8)) || decide ((c.value.size : Int) > 512)) || (decide (c.op = 2) && decide ((c.gn : Int) > 0))) || (decide (c.op ≠ 1) && !emptyB c.value)
def rfchB (c : Ch) : Bool := bif rchB c then false else tagsB c.gn c.tag
theorem rfch_eq (c : Ch) : rfchB c = fchB c := by
  unfold rfchB rchB fchB
  generalize nameB c.name = a
  generalize tagsB c.gn c.tag = t
  generalize emptyB c.value = e
  generalize decide ((c.value.size : Int) > 512) = z
  have e8 : decide ((c.gn : Int) ≤ 8) = !decide ((c.gn : Int) > 8) := by
    rw [Bool.eq_iff_iff]; simp only [Bool.not_eq_true', decide_eq_true_eq, decide_eq_false_iff_not]; omega
  rw [e8]
  generalize decide ((c.gn : Int) > 8) = g8
  generalize decide ((c.gn : Int) > 0) = g0
  by_cases h1 : c.op = 1
  · simp [h1]; cases a <;> cases t <;> cases z <;> cases e <;> cases g8 <;> cases g0 <;> rfl
  by_cases h2 : c.op = 2
  · simp [h2]; cases a <;> cases t <;> cases z <;> cases e <;> cases g8 <;> cases g0 <;> rfl
  by_cases h3 : c.op = 3
  · simp [h3]; cases a <;> cases t <;> cases z <;> cases e <;> cases g8 <;> cases g0 <;> rfl
  · have : c.op < 1 ∨ c.op > 3 := by omega
    rcases this with h | h <;> simp [h, h1, h2, h3]

set_option maxHeartbeats 1000000 in
theorem rfch_calls (c : Ch) (w : World) (hc : ChIn w c) (kc : ChOk c) : Calls Try.prog 84 #[.agg (encCh c).toArray] w (Ret (.bool (rfchB c)) w) := by
  refine fn_calls (n := 83) Try.func84 rfl rfl (lb rfl) ?_
  have hn1 := kc.n
  refine cseq ?_
  refine creg ?_
  refine lbxa rfl (fun b1 => ?_)
  refine l1 (asgb rfl) ?_
  refine lnil ?_
  refine nthen ?_
  refine cseq ?_
  refine cseq ?_
  refine creg ?_
  refine l1 (fa fa77_0 rfl) ?_
  refine l1 (ldc 0 Try.isAgg3 rfl rfl rfl) ?_
  refine l1 (lss rfl rfl) ?_
  refine l1 (mvb rfl) ?_
  refine l1g rfl (gwf rfl) (fun h => fa fa77_0 rfl) ?_
  refine l1g rfl (gwf rfl) (fun h => ldc 0 Try.isAgg3 rfl (gvt h) rfl) ?_
  refine l1g rfl (gwf rfl) (fun h => gtr (gvt h) rfl) ?_
  refine l1 (pk_or rfl rfl rfl) ?_
  refine l1 (mvb rfl) ?_
  refine l1g rfl (gwf rfl) (fun h => fa fa77_1 rfl) ?_
  refine l1g rfl (gwf rfl) (fun h => ldc 0 Try.isAgg9 rfl (gvt h) rfl) ?_
  refine l1g rfl (gwf rfl) (fun h => cl hb113 rfl (mc (gvt h) mn) (fun w hw => rname_calls _ w)) ?_
  refine l1g rfl (gwf rfl) (fun h => nt (gvt h)) ?_
  refine l1 (pk_or rfl rfl rfl) ?_
  refine l1 (mvb rfl) ?_
  refine l1g rfl (gwf rfl) (fun h => fa fa77_2 rfl) ?_
  refine l1g rfl (gwf rfl) (fun h => ldc 0 Try.isAgg75 rfl (gvt h) rfl) ?_
  refine l1g rfl (gwf rfl) (fun h => lens sl75 rfl (gvt h)) ?_
  refine l1g rfl (gwf rfl) (fun h => gtr (gvt h) rfl) ?_
  refine l1 (pk_or rfl rfl rfl) ?_
  refine l1 (mvb rfl) ?_
  refine l1g rfl (gwf rfl) (fun h => fa fa77_3 rfl) ?_
  refine l1g rfl (gwf rfl) (fun h => ldc 0 Try.isAgg9 rfl (gvt h) rfl) ?_
  refine l1g rfl (gwf rfl) (fun h => lenstr Try.underlying9 rfl (gvt h)) ?_
  refine l1g rfl (gwf rfl) (fun h => gtr (gvt h) rfl) ?_
  refine l1 (pk_or rfl rfl rfl) ?_
  refine l1 (mvb rfl) ?_
  refine l1g rfl (gwf rfl) (fun h => fa fa77_0 rfl) ?_
  refine l1g rfl (gwf rfl) (fun h => ldc 0 Try.isAgg3 rfl (gvt h) rfl) ?_
  refine l1g rfl (gwf rfl) (fun h => eql (gvt h) rfl) ?_
  refine l1g rfl (gwf rfl) (fun h => mvb (gvt h)) ?_
  refine l1g rfl (ggt rfl) (fun h => fa fa77_2 rfl) ?_
  refine l1g rfl (ggt rfl) (fun h => ldc 0 Try.isAgg75 rfl (gvt h) rfl) ?_
  refine l1g rfl (ggt rfl) (fun h => lens sl75 rfl (gvt h)) ?_
  refine l1g rfl (ggt rfl) (fun h => gtr (gvt h) rfl) ?_
  refine l1g rfl (gwf rfl) (fun h => pk_and (gvt h) (gva h) rfl) ?_
  refine l1 (pk_or rfl rfl rfl) ?_
  refine l1 (mvb rfl) ?_
  refine l1g rfl (gwf rfl) (fun h => fa fa77_0 rfl) ?_
  refine l1g rfl (gwf rfl) (fun h => ldc 0 Try.isAgg3 rfl (gvt h) rfl) ?_
  refine l1g rfl (gwf rfl) (fun h => neq (gvt h) rfl) ?_
  refine l1g rfl (gwf rfl) (fun h => mvb (gvt h)) ?_
  refine l1g rfl (ggt rfl) (fun h => fa fa77_3 rfl) ?_
  refine l1g rfl (ggt rfl) (fun h => ldc 0 Try.isAgg9 rfl (gvt h) rfl) ?_
  refine l1g rfl (ggt rfl) (fun h => neqs (gvt h) rfl) ?_
  refine l1g rfl (gwf rfl) (fun h => pk_and (gvt h) (gva h) rfl) ?_
  refine l1 (pk_or rfl rfl rfl) ?_
  refine lnil ?_
  refine nthen ?_
  refine cif rfl (fun h1 => ?_) (fun h1 => ?_)
  · change rchB c = _ at h1
    refine cseq ?_
    refine creg ?_
    refine l1 (asgb rfl) ?_
    refine lnil ?_
    refine nthen ?_
    refine cret ?_
    refine nthenR ?_
    exact fin1b rfl rfl (by rw [rfchB, h1]; rfl)
  · change rchB c = _ at h1
    refine cskip ?_
    refine nthen ?_
    refine cseq ?_
    refine cseq ?_
    refine creg ?_
    refine l1 (asgi rfl) ?_
    refine lnil ?_
    refine nthen ?_
    refine cblock ?_
    refine cloopI (σ := Nat) (fun s => [(1, .pointer (some ⟨b1, 0, none⟩)), (3, .int .i64 (s : Int))]) (fun s => [⟨b1, encCh c, 77⟩]) (fun s => s ≤ c.gn ∧ ∀ j, j < s → tagBad c.tag j = false) (fun s => c.gn - s) 0 ⟨Nat.zero_le _, fun j hj => by omega⟩ ⟨rfl, rfl, trivial⟩ (List.Sublist.refl _) ?_
    rintro i j hI
    show WC _ _ _ ([⟨b1, encCh c, 77⟩]) _ _ (over j [(1, .pointer (some ⟨b1, 0, none⟩)), (3, .int .i64 (i : Int))])
    replace hI : i ≤ c.gn ∧ ∀ j, j < i → tagBad c.tag j = false := hI
    refine cseq ?_
    refine cseq ?_
    refine creg ?_
    refine l1 (mvi rfl) ?_
    refine l1 (fa fa77_2 rfl) ?_
    refine l1 (ldc 0 Try.isAgg75 rfl rfl rfl) ?_
    refine l1 (lens sl75 rfl rfl) ?_
    refine l1 (lss rfl rfl) ?_
    refine lnil ?_
    refine nthen ?_
    refine cif rfl (fun h2 => ?_) (fun h2 => ?_)
    · have hlt : i < c.gn := by (have := dt h2; omega)
      obtain ⟨b, o, hp, hbl, hm⟩ := hc.at hlt
      refine cskip ?_
      refine nthen ?_
      refine cseq ?_
      refine cblock ?_
      refine cseq ?_
      refine cregq mo (by kernel_rfl) ?_
      refine q1 (fa fa77_2 rfl) ?_
      refine q1 (ldc 0 Try.isAgg75 rfl rfl rfl) ?_
      refine q1 (mvi rfl) ?_
      refine q1 (isp sl75 hp rfl rfl (by omega) (by omega)) ?_
      refine q1 (ldm (v := .string (c.tag i)) Try.isAgg9 rfl (fun w' hw => ((hm i hlt).kept hw.below hbl).c0)) ?_
      refine q1 (cl hb113 rfl (mc rfl mn) (fun w hw => rname_calls _ w)) ?_
      refine q1 (nt rfl) ?_
      refine q1 (mvb rfl) ?_
      refine q1g rfl (gwf rfl) (fun h => mvi rfl) ?_
      refine q1g rfl (gwf rfl) (fun h => gtr (gvt h) rfl) ?_
      refine q1g rfl (gwf rfl) (fun h => mvb (gvt h)) ?_
      refine q1g rfl (ggt rfl) (fun h => fa fa77_2 rfl) ?_
      refine q1g rfl (ggt rfl) (fun h => ldc 0 Try.isAgg75 rfl (gvt h) rfl) ?_
      refine q1g rfl (ggt rfl) (fun h => mvi rfl) ?_
      refine q1g rfl (ggt rfl) (fun h => isp sl75 hp (gvt h) (gvt h) (by omega) (by omega)) ?_
      refine q1g rfl (ggt rfl) (fun h => ldm (v := .string (c.tag i)) Try.isAgg9 (gvt h) (fun w' hw => ((hm i hlt).kept hw.below hbl).c0)) ?_
      refine q1g rfl (ggt rfl) (fun h => fa fa77_2 rfl) ?_
      refine q1g rfl (ggt rfl) (fun h => ldc 0 Try.isAgg75 rfl (gvt h) rfl) ?_
      refine q1g rfl (ggt rfl) (fun h => mvi rfl) ?_
      refine q1g rfl (ggt rfl) (fun h => subn (gvt h) rfl (ri (by omega) (by omega))) ?_
      refine q1g rfl (ggt rfl) (fun h => isp sl75 hp (gvt h) (gvt h) (by simp at h; omega) (by omega)) ?_
      refine q1g rfl (ggt rfl) (fun h => ldm (v := .string (c.tag (i - 1))) Try.isAgg9 (gvt h) (fun w' hw => by rw [show ((i : Int) - 1).toNat = i - 1 from by omega]; exact ((hm (i - 1) (by omega)).kept hw.below hbl).c0)) ?_
      refine q1g rfl (ggt rfl) (fun h => leqs (gvt h) (gvt h)) ?_
      refine q1g rfl (gwf rfl) (fun h => pk_and (gvt h) (gva h) rfl) ?_
      refine q1 (pk_or rfl rfl rfl) ?_
      refine qnil ?_
      refine nthen ?_
      refine cif rfl (fun h3 => ?_) (fun h3 => ?_)
      · change rtagBad c.tag i = _ at h3
        rw [rtag_eq] at h3
        refine cseq ?_
        refine creg ?_
        refine l1 (asgb rfl) ?_
        refine lnil ?_
        refine nthen ?_
        refine cret ?_
        refine nblkR ?_
        refine nthenR ?_
        refine nIR ?_
        refine nblkR ?_
        refine nthenR ?_
        exact fin1b rfl rfl (by rw [rfchB, h1, tags_bad hlt h3]; rfl)
      · change rtagBad c.tag i = _ at h3
        rw [rtag_eq] at h3
        refine cskip ?_
        refine nblkN ?_
        refine nthen ?_
        refine creg ?_
        refine l1 (mvi rfl) ?_
        first | refine l1 (addn rfl rfl (ri (by omega) (by omega))) ?_ | refine l1 (add rfl rfl) ?_
        refine l1 (asgi rfl) ?_
        refine lnil ?_
        exact nI (i + 1) ⟨by omega, fun j hj => (Nat.lt_succ_iff_lt_or_eq.1 hj).elim (fun h => hI.2 j h) (fun h => by subst h; exact h3)⟩ (by show c.gn - (i + 1) < c.gn - i; omega) ⟨rfl, rfl, trivial⟩ (List.Sublist.refl _)
    · skip
      refine cexit ?_
      refine nthenE ?_
      refine nIE ?_
      refine nblkE ?_
      refine nthen ?_
      refine cseq ?_
      refine creg ?_
      refine l1 (asgb rfl) ?_
      refine lnil ?_
      refine nthen ?_
      refine cret ?_
      exact fin1b rfl rfl (by rw [rfchB, h1, tags_good (fun j hj => hI.2 j (by have := df h2; omega))]; rfl)

def sameCh (a b : Ch) : Bool := bif decide ((a.gn : Int) ≠ (b.gn : Int)) then false else bif (List.range a.gn).any (fun i => !((a.tag i).toList == (b.tag i).toList)) then false else ((decide (a.op = b.op) && (a.name.toList == b.name.toList)) && (a.value.toList == b.value.toList))
theorem sameCh_no {a b : Ch} {i : Nat} (h : decide ((a.gn : Int) ≠ (b.gn : Int)) = false) (hi : i < a.gn) (hne : (!((a.tag i).toList == (b.tag i).toList)) = true) : sameCh a b = false := by
  unfold sameCh
  rw [h, List.any_eq_true.2 ⟨i, List.mem_range.2 hi, hne⟩]; rfl
theorem sameCh_yes {a b : Ch} (h : decide ((a.gn : Int) ≠ (b.gn : Int)) = false) (hall : ∀ i, i < a.gn → (!((a.tag i).toList == (b.tag i).toList)) = false) : sameCh a b = ((decide (a.op = b.op) && (a.name.toList == b.name.toList)) && (a.value.toList == b.value.toList)) := by
  unfold sameCh
  have : (List.range a.gn).any (fun i => !((a.tag i).toList == (b.tag i).toList)) = false := by
    rw [List.any_eq_false]
    intro i hi
    rw [hall i (List.mem_range.1 hi)]; simp
  rw [h, this]; rfl
def chz : Ch := ⟨0, ByteArray.empty, none, 0, 0, fun _ => ByteArray.empty, ByteArray.empty⟩
theorem bk77z : ∀ w, (Instr.build 77 #[]).run Try.prog w = .ok (.agg (encCh chz).toArray) w := fun w => by kernel_rfl
theorem chzIn (w : World) : ChIn w chz := ⟨.inl rfl⟩
theorem chz_same (c : Ch) : sameCh c chz = blankB c := by
  unfold sameCh blankB
  by_cases h : c.gn = 0
  · simp only [h, chz]
    simp [emptyB]
    rfl
  · have : decide ((c.gn : Int) ≠ (chz.gn : Int)) = true := by simp [chz]; omega
    rw [this]
    have h2 : decide ((c.gn : Int) = 0) = false := by simp; omega
    rw [h2]; simp
def rformedR (r : Rw) : Bool := bif !rformedH r.hd || r.hd.control then false else bif r.known then rfchB r.ch else sameCh r.ch chz
theorem rformedR_eq {r : Rw} (k : RwOk r) : rformedR r = formedR r := by
  unfold rformedR formedR
  rw [rformed_eq k.h.z, rfch_eq, chz_same]

set_option maxHeartbeats 1000000 in
theorem sameCh_calls (a b : Ch) (w : World) (ha : ChIn w a) (hb : ChIn w b) (hn1 : (a.gn : Int) ≤ 9223372036854775807) : Calls Try.prog 85 #[.agg (encCh a).toArray, .agg (encCh b).toArray] w (Ret (.bool (sameCh a b)) w) := by
  refine fn_calls (n := 50) Try.func85 rfl rfl (lb rfl) ?_
  refine cseq ?_
  refine creg ?_
  refine lbxa rfl (fun b1 => ?_)
  refine lbxa rfl (fun b2 => ?_)
  refine l1 (asgb rfl) ?_
  refine lnil ?_
  refine nthen ?_
  refine cseq ?_
  refine cseq ?_
  refine creg ?_
  refine l1 (fa fa77_2 rfl) ?_
  refine l1 (ldc 0 Try.isAgg75 rfl rfl rfl) ?_
  refine l1 (lens sl75 rfl rfl) ?_
  refine l1 (fa fa77_2 rfl) ?_
  refine l1 (ldc 1 Try.isAgg75 rfl rfl rfl) ?_
  refine l1 (lens sl75 rfl rfl) ?_
  refine l1 (neq rfl rfl) ?_
  refine lnil ?_
  refine nthen ?_
  refine cif rfl (fun h1 => ?_) (fun h1 => ?_)
  · skip
    refine cseq ?_
    refine creg ?_
    refine l1 (asgb rfl) ?_
    refine lnil ?_
    refine nthen ?_
    refine cret ?_
    refine nthenR ?_
    exact fin1b rfl rfl (by rw [sameCh, h1]; rfl)
  · have hgn := df2 h1
    refine cskip ?_
    refine nthen ?_
    refine cseq ?_
    refine cseq ?_
    refine creg ?_
    refine l1 (asgi rfl) ?_
    refine lnil ?_
    refine nthen ?_
    refine cblock ?_
    refine cloopI (σ := Nat) (fun s => [(2, .pointer (some ⟨b1, 0, none⟩)), (3, .pointer (some ⟨b2, 0, none⟩)), (5, .int .i64 (s : Int))]) (fun s => [⟨b1, encCh a, 77⟩, ⟨b2, encCh b, 77⟩]) (fun s => s ≤ a.gn ∧ ∀ j, j < s → (!((a.tag j).toList == (b.tag j).toList)) = false) (fun s => a.gn - s) 0 ⟨Nat.zero_le _, fun j hj => by omega⟩ ⟨rfl, rfl, rfl, trivial⟩ (List.Sublist.refl _) ?_
    rintro i j hI
    show WC _ _ _ ([⟨b1, encCh a, 77⟩, ⟨b2, encCh b, 77⟩]) _ _ (over j [(2, .pointer (some ⟨b1, 0, none⟩)), (3, .pointer (some ⟨b2, 0, none⟩)), (5, .int .i64 (i : Int))])
    replace hI : i ≤ a.gn ∧ ∀ j, j < i → (!((a.tag j).toList == (b.tag j).toList)) = false := hI
    refine cseq ?_
    refine cseq ?_
    refine creg ?_
    refine l1 (mvi rfl) ?_
    refine l1 (fa fa77_2 rfl) ?_
    refine l1 (ldc 0 Try.isAgg75 rfl rfl rfl) ?_
    refine l1 (lens sl75 rfl rfl) ?_
    refine l1 (lss rfl rfl) ?_
    refine lnil ?_
    refine nthen ?_
    refine cif rfl (fun h2 => ?_) (fun h2 => ?_)
    · have hlt : i < a.gn := by (have := dt h2; omega)
      obtain ⟨bq, o, hp, hbl, hm⟩ := ha.at hlt
      obtain ⟨bq2, o2, hp2, hbl2, hm2⟩ := hb.at (i := i) (by omega)
      refine cskip ?_
      refine nthen ?_
      refine cseq ?_
      refine cblock ?_
      refine cseq ?_
      refine cregq mo (by kernel_rfl) ?_
      refine q1 (fa fa77_2 rfl) ?_
      refine q1 (ldc 0 Try.isAgg75 rfl rfl rfl) ?_
      refine q1 (mvi rfl) ?_
      refine q1 (isp sl75 hp rfl rfl (by omega) (by omega)) ?_
      refine q1 (ldm (v := .string (a.tag i)) Try.isAgg9 rfl (fun w' hw => ((hm i hlt).kept hw.below hbl).c0)) ?_
      refine q1 (fa fa77_2 rfl) ?_
      refine q1 (ldc 1 Try.isAgg75 rfl rfl rfl) ?_
      refine q1 (mvi rfl) ?_
      refine q1 (isp sl75 hp2 rfl rfl (by omega) (by omega)) ?_
      refine q1 (ldm (v := .string (b.tag i)) Try.isAgg9 rfl (fun w' hw => ((hm2 i (by omega)).kept hw.below hbl2).c0)) ?_
      refine q1 (neqs rfl rfl) ?_
      refine qnil ?_
      refine nthen ?_
      refine cif rfl (fun h3 => ?_) (fun h3 => ?_)
      · skip
        refine cseq ?_
        refine creg ?_
        refine l1 (asgb rfl) ?_
        refine lnil ?_
        refine nthen ?_
        refine cret ?_
        refine nblkR ?_
        refine nthenR ?_
        refine nIR ?_
        refine nblkR ?_
        refine nthenR ?_
        exact fin1b rfl rfl ((sameCh_no h1 hlt h3).symm)
      · skip
        refine cskip ?_
        refine nblkN ?_
        refine nthen ?_
        refine creg ?_
        refine l1 (mvi rfl) ?_
        first | refine l1 (addn rfl rfl (ri (by omega) (by omega))) ?_ | refine l1 (add rfl rfl) ?_
        refine l1 (asgi rfl) ?_
        refine lnil ?_
        exact nI (i + 1) ⟨by omega, fun j hj => (Nat.lt_succ_iff_lt_or_eq.1 hj).elim (fun h => hI.2 j h) (fun h => by subst h; exact h3)⟩ (by show a.gn - (i + 1) < a.gn - i; omega) ⟨rfl, rfl, rfl, trivial⟩ (List.Sublist.refl _)
    · skip
      refine cexit ?_
      refine nthenE ?_
      refine nIE ?_
      refine nblkE ?_
      refine nthen ?_
      refine cseq ?_
      refine creg ?_
      refine l1 (fa fa77_0 rfl) ?_
      refine l1 (ldc 0 Try.isAgg3 rfl rfl rfl) ?_
      refine l1 (fa fa77_0 rfl) ?_
      refine l1 (ldc 1 Try.isAgg3 rfl rfl rfl) ?_
      refine l1 (eql rfl rfl) ?_
      refine l1 (mvb rfl) ?_
      refine l1g rfl (gwt rfl) (fun h => fa fa77_1 rfl) ?_
      refine l1g rfl (gwt rfl) (fun h => ldc 0 Try.isAgg9 rfl (gvt h) rfl) ?_
      refine l1g rfl (gwt rfl) (fun h => fa fa77_1 rfl) ?_
      refine l1g rfl (gwt rfl) (fun h => ldc 1 Try.isAgg9 rfl (gvt h) rfl) ?_
      refine l1g rfl (gwt rfl) (fun h => eqls (gvt h) (gvt h)) ?_
      refine l1 (pk_and rfl rfl rfl) ?_
      refine l1 (mvb rfl) ?_
      refine l1g rfl (gwt rfl) (fun h => fa fa77_3 rfl) ?_
      refine l1g rfl (gwt rfl) (fun h => ldc 0 Try.isAgg9 rfl (gvt h) rfl) ?_
      refine l1g rfl (gwt rfl) (fun h => fa fa77_3 rfl) ?_
      refine l1g rfl (gwt rfl) (fun h => ldc 1 Try.isAgg9 rfl (gvt h) rfl) ?_
      refine l1g rfl (gwt rfl) (fun h => eqls (gvt h) (gvt h)) ?_
      refine l1 (pk_and rfl rfl rfl) ?_
      refine l1 (asgb rfl) ?_
      refine lnil ?_
      refine nthen ?_
      refine cret ?_
      exact fin1b rfl rfl ((sameCh_yes h1 (fun j hj => hI.2 j (by have := df h2; omega))).symm)

theorem rrowformed_calls (x : Rw) (w : World) (hx : RwIn w x) (kx : RwOk x) : Calls Try.prog 49 #[.agg (encR x).toArray] w (Ret (.bool (rformedR x)) w) := by
  refine fn_calls (n := 21) Try.func49 rfl rfl (lb rfl) ?_
  refine cseq ?_
  refine creg ?_
  refine lbxa rfl (fun b1 => ?_)
  refine l1 (asgb rfl) ?_
  refine lnil ?_
  refine nthen ?_
  refine cseq ?_
  refine cseq ?_
  refine creg ?_
  refine l1 (fa fa79_0 rfl) ?_
  refine l1 (lda 0 Try.isAgg37 Try.sizeOf37 rfl rfl (encR_hd _) rfl) ?_
  refine l1 (cl hb77 rfl (mc rfl mn) (fun w hw => rformed_calls _ w (Sl.keptS hx.h hw) kx.h)) ?_
  refine l1 (nt rfl) ?_
  refine l1 (mvb rfl) ?_
  refine l1g rfl (gwf rfl) (fun h => fa fa79_0 rfl) ?_
  refine l1g rfl (gwf rfl) (fun h => fa fa37_4 (gvt h)) ?_
  refine l1g rfl (gwf rfl) (fun h => ldc 0 Try.isAgg4 rfl (gvt h) rfl) ?_
  refine l1 (pk_or rfl rfl rfl) ?_
  refine lnil ?_
  refine nthen ?_
  refine cif rfl (fun h1 => ?_) (fun h1 => ?_)
  · skip
    refine cseq ?_
    refine creg ?_
    refine l1 (asgb rfl) ?_
    refine lnil ?_
    refine nthen ?_
    refine cret ?_
    refine nthenR ?_
    exact fin1b rfl rfl (by first | rfl | (simp only [rformedR, h1, cond_true, cond_false]; done))
  · skip
    refine cskip ?_
    refine nthen ?_
    refine cseq ?_
    refine cseq ?_
    refine creg ?_
    refine l1 (fa fa79_1 rfl) ?_
    refine l1 (ldc 0 Try.isAgg4 rfl rfl rfl) ?_
    refine lnil ?_
    refine nthen ?_
    refine cif rfl (fun h2 => ?_) (fun h2 => ?_)
    · skip
      refine cseq ?_
      refine creg ?_
      refine l1 (fa fa79_2 rfl) ?_
      refine l1 (lda 0 Try.isAgg77 Try.sizeOf77 rfl rfl (encR_ch _) rfl) ?_
      refine l1 (cl hb84 rfl (mc rfl mn) (fun w hw => rfch_calls _ w (Sl.keptS hx.c hw) kx.c)) ?_
      refine l1 (asgb rfl) ?_
      refine lnil ?_
      refine nthen ?_
      refine cret ?_
      refine nthenR ?_
      exact fin1b rfl rfl (by first | rfl | (simp only [rformedR, h1, h2, cond_true, cond_false]; done))
    · skip
      refine cskip ?_
      refine nthen ?_
      refine cseq ?_
      refine creg ?_
      refine l1 (fa fa79_2 rfl) ?_
      refine l1 (lda 0 Try.isAgg77 Try.sizeOf77 rfl rfl (encR_ch _) rfl) ?_
      refine l1 (bld0 bk77z) ?_
      refine l1 (cl hb85 rfl (mc rfl (mc rfl mn)) (fun w hw => sameCh_calls _ _ w (Sl.keptS hx.c hw) (chzIn w) kx.c.n)) ?_
      refine l1 (asgb rfl) ?_
      refine lnil ?_
      refine nthen ?_
      refine cret ?_
      exact fin1b rfl rfl (by first | rfl | (simp only [rformedR, h1, h2, cond_true, cond_false]; done))
end Go.Proofs.Ytkdbjhlkahkobaa
