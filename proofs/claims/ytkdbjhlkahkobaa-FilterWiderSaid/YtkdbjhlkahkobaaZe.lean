/- several texts of ours, joined: Ya, Mem4, Stp, Trn, Rw2, Yb, Yc, Mp2, Prt -/
import Derived.Test.YtkdbjhlkahkobaaZa
import Derived.Test.YtkdbjhlkahkobaaZd
import Derived.Test.YtkdbjhlkahkobaaZb
import Derived.Laws.StructEq
/- walks, printed by a program of ours -/
namespace Go.Proofs.Ytkdbjhlkahkobaa
open Jal Go.RowKit
set_option maxRecDepth 100000
theorem name_calls (s : ByteArray) (w : World) : Calls Try.prog 120 #[.string s] w (Ret (.bool (nameB s)) w) := by
  refine fn_calls (n := 11) Try.func120 rfl rfl (lb rfl) ?_
  refine cseq ?_
  refine creg ?_
  refine l1 (asgb rfl) ?_
  refine lnil ?_
  refine nthen ?_
  refine cseq ?_
  refine creg ?_
  refine l1 (mvt rfl) ?_
  refine l1 (lenstr Try.underlying9 rfl rfl) ?_
  refine l1 (geq rfl rfl) ?_
  refine l1 (mvb rfl) ?_
  refine l1g rfl (gwt rfl) (fun h => mvt rfl) ?_
  refine l1g rfl (gwt rfl) (fun h => lenstr Try.underlying9 rfl (gvt h)) ?_
  refine l1g rfl (gwt rfl) (fun h => leq (gvt h) rfl) ?_
  refine l1 (pk_and rfl rfl rfl) ?_
  refine l1 (asgb rfl) ?_
  refine lnil ?_
  refine nthen ?_
  refine cret ?_
  exact fin1 rfl rfl

theorem rname_calls (s : ByteArray) (w : World) : Calls Try.prog 113 #[.string s] w (Ret (.bool (nameB s)) w) := by
  refine fn_calls (n := 11) Try.func113 rfl rfl (lb rfl) ?_
  refine cseq ?_
  refine creg ?_
  refine l1 (asgb rfl) ?_
  refine lnil ?_
  refine nthen ?_
  refine cseq ?_
  refine creg ?_
  refine l1 (mvt rfl) ?_
  refine l1 (lenstr Try.underlying9 rfl rfl) ?_
  refine l1 (geq rfl rfl) ?_
  refine l1 (mvb rfl) ?_
  refine l1g rfl (gwt rfl) (fun h => mvt rfl) ?_
  refine l1g rfl (gwt rfl) (fun h => lenstr Try.underlying9 rfl (gvt h)) ?_
  refine l1g rfl (gwt rfl) (fun h => leq (gvt h) rfl) ?_
  refine l1 (pk_and rfl rfl rfl) ?_
  refine l1 (asgb rfl) ?_
  refine lnil ?_
  refine nthen ?_
  refine cret ?_
  exact fin1 rfl rfl

theorem tags_calls (w : World) (p : Option Addr) (n c : Nat) (t : Nat → ByteArray) (hn : (n : Int) ≤ 9223372036854775807) (hl : Sl w p n 1 (fun i => encT (t i))) : Calls Try.prog 121 #[.slice p n c] w (Ret (.bool (tagsB n t && decide ((n : Int) ≤ 8))) w) := by
  refine fn_calls (n := 32) Try.func121 rfl rfl (lb rfl) ?_
  refine cseq ?_
  refine creg ?_
  refine l1 (asgb rfl) ?_
  refine lnil ?_
  refine nthen ?_
  refine cseq ?_
  refine cseq ?_
  refine creg ?_
  refine l1 (mvs rfl) ?_
  refine l1 (lens sl75 rfl rfl) ?_
  refine l1 (mvi rfl) ?_
  refine lnil ?_
  refine nthen ?_
  refine cblock ?_
  refine cloopI (σ := Nat) (fun s => [(0, .slice p n c), (5, .slice p n c), (6, .int .i64 (n : Int)), (7, .int .i64 (s : Int))]) (fun s => []) (fun s => s ≤ n ∧ ∀ j, j < s → tagBad t j = false) (fun s => n - s) 0 ⟨Nat.zero_le _, fun j hj => by omega⟩ ⟨rfl, rfl, rfl, rfl, trivial⟩ (List.Sublist.refl _) ?_
  rintro i j hI
  show WC _ _ _ ([]) _ _ (over j [(0, .slice p n c), (5, .slice p n c), (6, .int .i64 (n : Int)), (7, .int .i64 (i : Int))])
  replace hI : i ≤ n ∧ ∀ j, j < i → tagBad t j = false := hI
  refine cseq ?_
  refine creg ?_
  refine l1 (lss rfl rfl) ?_
  refine lnil ?_
  refine nthen ?_
  refine cseq ?_
  refine cif rfl (fun h1 => ?_) (fun h1 => ?_)
  · have hlt : i < n := by (have := dt h1; omega)
    obtain ⟨b, o, hp, hbl, hm⟩ := hl.at hlt
    refine cskip ?_
    refine nthen ?_
    refine cseq ?_
    refine cblock ?_
    refine cseq ?_
    refine creg ?_
    refine l1 (mvi rfl) ?_
    refine l1 (isp sl75 hp rfl rfl (by omega) (by omega)) ?_
    refine l1 (ldm (v := .string (t i)) Try.isAgg9 rfl (fun w' hw => ((hm i hlt).kept hw.below hbl).c0)) ?_
    refine l1 (asgi rfl) ?_
    refine l1 (asgt rfl) ?_
    refine lnil ?_
    refine nthen ?_
    refine cseq ?_
    refine creg ?_
    refine l1 (mvt rfl) ?_
    refine l1 (cl hb120 rfl (mc rfl mn) (fun w hw => name_calls _ w)) ?_
    refine l1 (nt rfl) ?_
    refine l1 (mvb rfl) ?_
    refine l1g rfl (gwf rfl) (fun h => mvi rfl) ?_
    refine l1g rfl (gwf rfl) (fun h => gtr (gvt h) rfl) ?_
    refine l1g rfl (gwf rfl) (fun h => mvb (gvt h)) ?_
    refine l1g rfl (ggt rfl) (fun h => mvs rfl) ?_
    refine l1g rfl (ggt rfl) (fun h => mvi rfl) ?_
    refine l1g rfl (ggt rfl) (fun h => subn (gvt h) rfl (ri (by omega) (by omega))) ?_
    refine l1g rfl (ggt rfl) (fun h => isp sl75 hp (gvt h) (gvt h) (by simp at h; omega) (by omega)) ?_
    refine l1g rfl (ggt rfl) (fun h => ldm (v := .string (t (i - 1))) Try.isAgg9 (gvt h) (fun w' hw => by rw [show ((i : Int) - 1).toNat = i - 1 from by omega]; exact ((hm (i - 1) (by omega)).kept hw.below hbl).c0)) ?_
    refine l1g rfl (ggt rfl) (fun h => mvt rfl) ?_
    refine l1g rfl (ggt rfl) (fun h => geqs (gvt h) (gvt h)) ?_
    refine l1g rfl (gwf rfl) (fun h => pk_and (gvt h) (gva h) rfl) ?_
    refine l1 (pk_or rfl rfl rfl) ?_
    refine lnil ?_
    refine nthen ?_
    refine cif rfl (fun h2 => ?_) (fun h2 => ?_)
    · change tagBad t i = _ at h2
      refine cseq ?_
      refine creg ?_
      refine l1 (asgb rfl) ?_
      refine lnil ?_
      refine nthen ?_
      refine cret ?_
      refine nblkR ?_
      refine nthenR ?_
      refine nIR ?_
      refine nblkR ?_
      refine nthenR ?_
      exact fin1b rfl rfl (by rw [tags_bad hlt h2]; rfl)
    · change tagBad t i = _ at h2
      refine cskip ?_
      refine nblkN ?_
      refine nthen ?_
      refine creg ?_
      first | refine l1 (addn rfl rfl (ri (by omega) (by omega))) ?_ | refine l1 (add rfl rfl) ?_
      refine l1 (mvi rfl) ?_
      refine lnil ?_
      exact nI (i + 1) ⟨by omega, fun j hj => (Nat.lt_succ_iff_lt_or_eq.1 hj).elim (fun h => hI.2 j h) (fun h => by subst h; exact h2)⟩ (by show n - (i + 1) < n - i; omega) ⟨rfl, rfl, rfl, rfl, trivial⟩ (List.Sublist.refl _)
  · skip
    refine cexit ?_
    refine nthenE ?_
    refine nIE ?_
    refine nblkE ?_
    refine nthen ?_
    refine cseq ?_
    refine creg ?_
    refine l1 (mvs rfl) ?_
    refine l1 (lens sl75 rfl rfl) ?_
    refine l1 (leq rfl rfl) ?_
    refine l1 (asgb rfl) ?_
    refine lnil ?_
    refine nthen ?_
    refine cret ?_
    exact fin1b rfl rfl (by rw [tags_good (fun j hj => hI.2 j (by have := df h1; omega))]; rfl)

theorem fch_calls (c : Ch) (w : World) (hc : ChIn w c) (kc : ChOk c) : Calls Try.prog 89 #[.agg (encCh c).toArray] w (Ret (.bool (fchB c)) w) := by
  refine fn_calls (n := 35) Try.func89 rfl rfl (lb rfl) ?_
  refine cseq ?_
  refine creg ?_
  refine lbxa rfl (fun b1 => ?_)
  refine l1 (asgb rfl) ?_
  refine lnil ?_
  refine nthen ?_
  refine cseq ?_
  refine cseq ?_
  refine creg ?_
  refine l1 (fa fa77_1 rfl) ?_
  refine l1 (ldc 0 Try.isAgg9 rfl rfl rfl) ?_
  refine l1 (cl hb120 rfl (mc rfl mn) (fun w hw => name_calls _ w)) ?_
  refine l1 (nt rfl) ?_
  refine l1 (mvb rfl) ?_
  refine l1g rfl (gwf rfl) (fun h => fa fa77_2 rfl) ?_
  refine l1g rfl (gwf rfl) (fun h => ldc 0 Try.isAgg75 rfl (gvt h) rfl) ?_
  refine l1g rfl (gwf rfl) (fun h => cl hb121 rfl (mc (gvt h) mn) (fun w hw => tags_calls w _ _ _ _ kc.n (Sl.keptS hc hw))) ?_
  refine l1g rfl (gwf rfl) (fun h => nt (gvt h)) ?_
  refine l1 (pk_or rfl rfl rfl) ?_
  refine l1 (mvb rfl) ?_
  refine l1g rfl (gwf rfl) (fun h => fa fa77_3 rfl) ?_
  refine l1g rfl (gwf rfl) (fun h => ldc 0 Try.isAgg9 rfl (gvt h) rfl) ?_
  refine l1g rfl (gwf rfl) (fun h => lenstr Try.underlying9 rfl (gvt h)) ?_
  refine l1g rfl (gwf rfl) (fun h => gtr (gvt h) rfl) ?_
  refine l1 (pk_or rfl rfl rfl) ?_
  refine lnil ?_
  refine nthen ?_
  refine cif rfl (fun h1 => ?_) (fun h1 => ?_)
  · skip
    refine cseq ?_
    refine creg ?_
    refine l1 (asgb rfl) ?_
    refine lnil ?_
    refine nthen ?_
    refine cret ?_
    refine nthenR ?_
    exact fin1b rfl rfl (by first | rfl | (simp only [fchB, h1, cond_true, cond_false]; done) | (simp only [fchB, h1, cond_true, cond_false]; rfl))
  · skip
    refine cskip ?_
    refine nthen ?_
    refine cseq ?_
    refine cseq ?_
    refine creg ?_
    refine l1 (fa fa77_0 rfl) ?_
    refine l1 (ldc 0 Try.isAgg3 rfl rfl rfl) ?_
    refine lnil ?_
    refine nthen ?_
    refine cblock ?_
    refine cseq ?_
    refine cblock ?_
    refine cseq ?_
    refine cblock ?_
    refine cseq ?_
    refine cseq ?_
    refine cseq ?_
    refine creg ?_
    refine l1 (eql rfl rfl) ?_
    refine l1 (asgb rfl) ?_
    refine lnil ?_
    refine nthen ?_
    refine cif rfl (fun h2 => ?_) (fun h2 => ?_)
    · skip
      refine cexit ?_
      refine nthenE ?_
      refine nthenE ?_
      refine nblkE ?_
      refine nthen ?_
      refine cseq ?_
      refine creg ?_
      refine l1 (fa fa77_2 rfl) ?_
      refine l1 (ldc 0 Try.isAgg75 rfl rfl rfl) ?_
      refine l1 (lens sl75 rfl rfl) ?_
      refine l1 (gtr rfl rfl) ?_
      refine lnil ?_
      refine nthen ?_
      refine cif rfl (fun h3 => ?_) (fun h3 => ?_)
      · skip
        refine cseq ?_
        refine creg ?_
        refine l1 (asgb rfl) ?_
        refine lnil ?_
        refine nthen ?_
        refine cret ?_
        refine nblkR ?_
        refine nthenR ?_
        refine nblkR ?_
        refine nthenR ?_
        exact fin1b rfl rfl (by first | rfl | (simp only [fchB, h1, h2, h3, cond_true, cond_false]; done) | (simp only [fchB, h1, h2, h3, cond_true, cond_false]; rfl))
      · skip
        refine cskip ?_
        refine nblkN ?_
        refine nthen ?_
        refine cseq ?_
        refine cseq ?_
        refine creg ?_
        refine l1 (fa fa77_3 rfl) ?_
        refine l1 (ldc 0 Try.isAgg9 rfl rfl rfl) ?_
        refine l1 (eqls rfl rfl) ?_
        refine l1 (asgb rfl) ?_
        refine lnil ?_
        refine nthen ?_
        refine cret ?_
        refine nthenR ?_
        refine nblkR ?_
        refine nthenR ?_
        exact fin1b rfl rfl (by first | rfl | (simp only [fchB, h1, h2, h3, cond_true, cond_false]; done) | (simp only [fchB, h1, h2, h3, cond_true, cond_false]; rfl))
    · skip
      refine cskip ?_
      refine nthen ?_
      refine cseq ?_
      refine creg ?_
      refine l1 (eql rfl rfl) ?_
      refine l1 (asgb rfl) ?_
      refine lnil ?_
      refine nthen ?_
      refine cif rfl (fun h4 => ?_) (fun h4 => ?_)
      · skip
        refine cexit ?_
        refine nthenE ?_
        refine nblkO (by decide) ?_
        refine nthenE ?_
        refine nblkE ?_
        refine nthen ?_
        refine cseq ?_
        refine cseq ?_
        refine creg ?_
        refine l1 (fa fa77_3 rfl) ?_
        refine l1 (ldc 0 Try.isAgg9 rfl rfl rfl) ?_
        refine l1 (eqls rfl rfl) ?_
        refine l1 (asgb rfl) ?_
        refine lnil ?_
        refine nthen ?_
        refine cret ?_
        refine nthenR ?_
        refine nblkR ?_
        refine nthenR ?_
        exact fin1b rfl rfl (by first | rfl | (simp only [fchB, h1, h2, h4, cond_true, cond_false]; done) | (simp only [fchB, h1, h2, h4, cond_true, cond_false]; rfl))
      · skip
        refine cskip ?_
        refine nthen ?_
        refine cexit ?_
        refine nblkO (by decide) ?_
        refine nthenE ?_
        refine nblkO (by decide) ?_
        refine nthenE ?_
        refine nblkE ?_
        refine nthen ?_
        refine cseq ?_
        refine creg ?_
        refine l1 (fa fa77_0 rfl) ?_
        refine l1 (ldc 0 Try.isAgg3 rfl rfl rfl) ?_
        refine l1 (eql rfl rfl) ?_
        refine l1 (asgb rfl) ?_
        refine lnil ?_
        refine nthen ?_
        refine cret ?_
        exact fin1b rfl rfl (by first | rfl | (simp only [fchB, h1, h2, h4, cond_true, cond_false]; done) | (simp only [fchB, h1, h2, h4, cond_true, cond_false]; rfl))

theorem blank_calls (c : Ch) (w : World) : Calls Try.prog 90 #[.agg (encCh c).toArray] w (Ret (.bool (blankB c)) w) := by
  refine fn_calls (n := 22) Try.func90 rfl rfl (lb rfl) ?_
  refine cseq ?_
  refine creg ?_
  refine lbxa rfl (fun b1 => ?_)
  refine l1 (asgb rfl) ?_
  refine lnil ?_
  refine nthen ?_
  refine cseq ?_
  refine creg ?_
  refine l1 (fa fa77_0 rfl) ?_
  refine l1 (ldc 0 Try.isAgg3 rfl rfl rfl) ?_
  refine l1 (eql rfl rfl) ?_
  refine l1 (mvb rfl) ?_
  refine l1g rfl (gwt rfl) (fun h => fa fa77_1 rfl) ?_
  refine l1g rfl (gwt rfl) (fun h => ldc 0 Try.isAgg9 rfl (gvt h) rfl) ?_
  refine l1g rfl (gwt rfl) (fun h => eqls (gvt h) rfl) ?_
  refine l1 (pk_and rfl rfl rfl) ?_
  refine l1 (mvb rfl) ?_
  refine l1g rfl (gwt rfl) (fun h => fa fa77_2 rfl) ?_
  refine l1g rfl (gwt rfl) (fun h => ldc 0 Try.isAgg75 rfl (gvt h) rfl) ?_
  refine l1g rfl (gwt rfl) (fun h => lens sl75 rfl (gvt h)) ?_
  refine l1g rfl (gwt rfl) (fun h => eql (gvt h) rfl) ?_
  refine l1 (pk_and rfl rfl rfl) ?_
  refine l1 (mvb rfl) ?_
  refine l1g rfl (gwt rfl) (fun h => fa fa77_3 rfl) ?_
  refine l1g rfl (gwt rfl) (fun h => ldc 0 Try.isAgg9 rfl (gvt h) rfl) ?_
  refine l1g rfl (gwt rfl) (fun h => eqls (gvt h) rfl) ?_
  refine l1 (pk_and rfl rfl rfl) ?_
  refine l1 (asgb rfl) ?_
  refine lnil ?_
  refine nthen ?_
  refine cret ?_
  exact fin1 rfl rfl

theorem rowformed_calls (x : Rw) (w : World) (hx : RwIn w x) (kx : RwOk x) : Calls Try.prog 54 #[.agg (encR x).toArray] w (Ret (.bool (formedR x)) w) := by
  refine fn_calls (n := 20) Try.func54 rfl rfl (lb rfl) ?_
  refine cseq ?_
  refine creg ?_
  refine lbxa rfl (fun b1 => ?_)
  refine l1 (asgb rfl) ?_
  refine lnil ?_
  refine nthen ?_
  refine cseq ?_
  refine cseq ?_
  refine creg ?_
  refine l1 (fa fa79_0 rfl) ?_
  refine l1 (lda 0 Try.isAgg37 Try.sizeOf37 rfl rfl (encR_hd _) rfl) ?_
  refine l1 (cl hb76 rfl (mc rfl mn) (fun w hw => hformed_calls _ w (Sl.keptS hx.h hw) kx.h)) ?_
  refine l1 (nt rfl) ?_
  refine l1 (mvb rfl) ?_
  refine l1g rfl (gwf rfl) (fun h => fa fa79_0 rfl) ?_
  refine l1g rfl (gwf rfl) (fun h => fa fa37_4 (gvt h)) ?_
  refine l1g rfl (gwf rfl) (fun h => ldc 0 Try.isAgg4 rfl (gvt h) rfl) ?_
  refine l1 (pk_or rfl rfl rfl) ?_
  refine lnil ?_
  refine nthen ?_
  refine cif rfl (fun h1 => ?_) (fun h1 => ?_)
  · skip
    refine cseq ?_
    refine creg ?_
    refine l1 (asgb rfl) ?_
    refine lnil ?_
    refine nthen ?_
    refine cret ?_
    refine nthenR ?_
    exact fin1b rfl rfl (by first | rfl | (simp only [formedR, h1, cond_true, cond_false]; done))
  · skip
    refine cskip ?_
    refine nthen ?_
    refine cseq ?_
    refine cseq ?_
    refine creg ?_
    refine l1 (fa fa79_1 rfl) ?_
    refine l1 (ldc 0 Try.isAgg4 rfl rfl rfl) ?_
    refine lnil ?_
    refine nthen ?_
    refine cif rfl (fun h2 => ?_) (fun h2 => ?_)
    · skip
      refine cseq ?_
      refine creg ?_
      refine l1 (fa fa79_2 rfl) ?_
      refine l1 (lda 0 Try.isAgg77 Try.sizeOf77 rfl rfl (encR_ch _) rfl) ?_
      refine l1 (cl hb89 rfl (mc rfl mn) (fun w hw => fch_calls _ w (Sl.keptS hx.c hw) kx.c)) ?_
      refine l1 (asgb rfl) ?_
      refine lnil ?_
      refine nthen ?_
      refine cret ?_
      refine nthenR ?_
      exact fin1b rfl rfl (by first | rfl | (simp only [formedR, h1, h2, cond_true, cond_false]; done))
    · skip
      refine cskip ?_
      refine nthen ?_
      refine cseq ?_
      refine creg ?_
      refine l1 (fa fa79_2 rfl) ?_
      refine l1 (lda 0 Try.isAgg77 Try.sizeOf77 rfl rfl (encR_ch _) rfl) ?_
      refine l1 (cl hb90 rfl (mc rfl mn) (fun w hw => blank_calls _ w)) ?_
      refine l1 (asgb rfl) ?_
      refine lnil ?_
      refine nthen ?_
      refine cret ?_
      exact fin1b rfl rfl (by first | rfl | (simp only [formedR, h1, h2, cond_true, cond_false]; done))

def rtagBad (t : Nat → ByteArray) (i : Nat) : Bool := !nameB (t i) || (decide ((i : Int) > 0) && (Op.bytesLess (t i).toList (t (i - 1)).toList || (t i).toList == (t (i - 1)).toList))
theorem rtag_eq (t : Nat → ByteArray) (i : Nat) : rtagBad t i = tagBad t i := by unfold rtagBad tagBad; rw [bl_total]
def rchB (c : Ch) : Bool := (((((decide (c.op < 1) || decide (c.op > 3)) || !nameB c.name) || decide ((c.gn : Int) > 8)) || decide ((c.value.size : Int) > 512)) || (decide (c.op = 2) && decide ((c.gn : Int) > 0))) || (decide (c.op ≠ 1) && !emptyB c.value)
def rfchB (c : Ch) : Bool := bif rchB c then false else tagsB c.gn c.tag
theorem rfch_eq (c : Ch) : rfchB c = fchB c := by
  unfold rfchB rchB fchB
  generalize nameB c.name = a
  generalize tagsB c.gn c.tag = t
  generalize emptyB c.value = e
  generalize decide ((c.value.size : Int) > 512) = z
  have e8 : decide ((c.gn : Int) ≤ 8) = !decide ((c.gn : Int) > 8) := by
    rw [Bool.eq_iff_iff]; simp only [Bool.not_eq_true', decide_eq_true_eq, decide_eq_false_iff_not]; omega
  rw [e8]
  generalize decide ((c.gn : Int) > 8) = g8
  generalize decide ((c.gn : Int) > 0) = g0
  by_cases h1 : c.op = 1
  · simp [h1]; cases a <;> cases t <;> cases z <;> cases e <;> cases g8 <;> cases g0 <;> rfl
  by_cases h2 : c.op = 2
  · simp [h2]; cases a <;> cases t <;> cases z <;> cases e <;> cases g8 <;> cases g0 <;> rfl
  by_cases h3 : c.op = 3
  · simp [h3]; cases a <;> cases t <;> cases z <;> cases e <;> cases g8 <;> cases g0 <;> rfl
  · have : c.op < 1 ∨ c.op > 3 := by omega
    rcases this with h | h <;> simp [h, h1, h2, h3]

set_option maxHeartbeats 1000000 in
theorem rfch_calls (c : Ch) (w : World) (hc : ChIn w c) (kc : ChOk c) : Calls Try.prog 84 #[.agg (encCh c).toArray] w (Ret (.bool (rfchB c)) w) := by
  refine fn_calls (n := 83) Try.func84 rfl rfl (lb rfl) ?_
  have hn1 := kc.n
  refine cseq ?_
  refine creg ?_
  refine lbxa rfl (fun b1 => ?_)
  refine l1 (asgb rfl) ?_
  refine lnil ?_
  refine nthen ?_
  refine cseq ?_
  refine cseq ?_
  refine creg ?_
  refine l1 (fa fa77_0 rfl) ?_
  refine l1 (ldc 0 Try.isAgg3 rfl rfl rfl) ?_
  refine l1 (lss rfl rfl) ?_
  refine l1 (mvb rfl) ?_
  refine l1g rfl (gwf rfl) (fun h => fa fa77_0 rfl) ?_
  refine l1g rfl (gwf rfl) (fun h => ldc 0 Try.isAgg3 rfl (gvt h) rfl) ?_
  refine l1g rfl (gwf rfl) (fun h => gtr (gvt h) rfl) ?_
  refine l1 (pk_or rfl rfl rfl) ?_
  refine l1 (mvb rfl) ?_
  refine l1g rfl (gwf rfl) (fun h => fa fa77_1 rfl) ?_
  refine l1g rfl (gwf rfl) (fun h => ldc 0 Try.isAgg9 rfl (gvt h) rfl) ?_
  refine l1g rfl (gwf rfl) (fun h => cl hb113 rfl (mc (gvt h) mn) (fun w hw => rname_calls _ w)) ?_
  refine l1g rfl (gwf rfl) (fun h => nt (gvt h)) ?_
  refine l1 (pk_or rfl rfl rfl) ?_
  refine l1 (mvb rfl) ?_
  refine l1g rfl (gwf rfl) (fun h => fa fa77_2 rfl) ?_
  refine l1g rfl (gwf rfl) (fun h => ldc 0 Try.isAgg75 rfl (gvt h) rfl) ?_
  refine l1g rfl (gwf rfl) (fun h => lens sl75 rfl (gvt h)) ?_
  refine l1g rfl (gwf rfl) (fun h => gtr (gvt h) rfl) ?_
  refine l1 (pk_or rfl rfl rfl) ?_
  refine l1 (mvb rfl) ?_
  refine l1g rfl (gwf rfl) (fun h => fa fa77_3 rfl) ?_
  refine l1g rfl (gwf rfl) (fun h => ldc 0 Try.isAgg9 rfl (gvt h) rfl) ?_
  refine l1g rfl (gwf rfl) (fun h => lenstr Try.underlying9 rfl (gvt h)) ?_
  refine l1g rfl (gwf rfl) (fun h => gtr (gvt h) rfl) ?_
  refine l1 (pk_or rfl rfl rfl) ?_
  refine l1 (mvb rfl) ?_
  refine l1g rfl (gwf rfl) (fun h => fa fa77_0 rfl) ?_
  refine l1g rfl (gwf rfl) (fun h => ldc 0 Try.isAgg3 rfl (gvt h) rfl) ?_
  refine l1g rfl (gwf rfl) (fun h => eql (gvt h) rfl) ?_
  refine l1g rfl (gwf rfl) (fun h => mvb (gvt h)) ?_
  refine l1g rfl (ggt rfl) (fun h => fa fa77_2 rfl) ?_
  refine l1g rfl (ggt rfl) (fun h => ldc 0 Try.isAgg75 rfl (gvt h) rfl) ?_
  refine l1g rfl (ggt rfl) (fun h => lens sl75 rfl (gvt h)) ?_
  refine l1g rfl (ggt rfl) (fun h => gtr (gvt h) rfl) ?_
  refine l1g rfl (gwf rfl) (fun h => pk_and (gvt h) (gva h) rfl) ?_
  refine l1 (pk_or rfl rfl rfl) ?_
  refine l1 (mvb rfl) ?_
  refine l1g rfl (gwf rfl) (fun h => fa fa77_0 rfl) ?_
  refine l1g rfl (gwf rfl) (fun h => ldc 0 Try.isAgg3 rfl (gvt h) rfl) ?_
  refine l1g rfl (gwf rfl) (fun h => neq (gvt h) rfl) ?_
  refine l1g rfl (gwf rfl) (fun h => mvb (gvt h)) ?_
  refine l1g rfl (ggt rfl) (fun h => fa fa77_3 rfl) ?_
  refine l1g rfl (ggt rfl) (fun h => ldc 0 Try.isAgg9 rfl (gvt h) rfl) ?_
  refine l1g rfl (ggt rfl) (fun h => neqs (gvt h) rfl) ?_
  refine l1g rfl (gwf rfl) (fun h => pk_and (gvt h) (gva h) rfl) ?_
  refine l1 (pk_or rfl rfl rfl) ?_
  refine lnil ?_
  refine nthen ?_
  refine cif rfl (fun h1 => ?_) (fun h1 => ?_)
  · change rchB c = _ at h1
    refine cseq ?_
    refine creg ?_
    refine l1 (asgb rfl) ?_
    refine lnil ?_
    refine nthen ?_
    refine cret ?_
    refine nthenR ?_
    exact fin1b rfl rfl (by rw [rfchB, h1]; rfl)
  · change rchB c = _ at h1
    refine cskip ?_
    refine nthen ?_
    refine cseq ?_
    refine cseq ?_
    refine creg ?_
    refine l1 (asgi rfl) ?_
    refine lnil ?_
    refine nthen ?_
    refine cblock ?_
    refine cloopI (σ := Nat) (fun s => [(1, .pointer (some ⟨b1, 0, none⟩)), (3, .int .i64 (s : Int))]) (fun s => [⟨b1, encCh c, 77⟩]) (fun s => s ≤ c.gn ∧ ∀ j, j < s → tagBad c.tag j = false) (fun s => c.gn - s) 0 ⟨Nat.zero_le _, fun j hj => by omega⟩ ⟨rfl, rfl, trivial⟩ (List.Sublist.refl _) ?_
    rintro i j hI
    show WC _ _ _ ([⟨b1, encCh c, 77⟩]) _ _ (over j [(1, .pointer (some ⟨b1, 0, none⟩)), (3, .int .i64 (i : Int))])
    replace hI : i ≤ c.gn ∧ ∀ j, j < i → tagBad c.tag j = false := hI
    refine cseq ?_
    refine cseq ?_
    refine creg ?_
    refine l1 (mvi rfl) ?_
    refine l1 (fa fa77_2 rfl) ?_
    refine l1 (ldc 0 Try.isAgg75 rfl rfl rfl) ?_
    refine l1 (lens sl75 rfl rfl) ?_
    refine l1 (lss rfl rfl) ?_
    refine lnil ?_
    refine nthen ?_
    refine cif rfl (fun h2 => ?_) (fun h2 => ?_)
    · have hlt : i < c.gn := by (have := dt h2; omega)
      obtain ⟨b, o, hp, hbl, hm⟩ := hc.at hlt
      refine cskip ?_
      refine nthen ?_
      refine cseq ?_
      refine cblock ?_
      refine cseq ?_
      refine cregq mo (by kernel_rfl) ?_
      refine q1 (fa fa77_2 rfl) ?_
      refine q1 (ldc 0 Try.isAgg75 rfl rfl rfl) ?_
      refine q1 (mvi rfl) ?_
      refine q1 (isp sl75 hp rfl rfl (by omega) (by omega)) ?_
      refine q1 (ldm (v := .string (c.tag i)) Try.isAgg9 rfl (fun w' hw => ((hm i hlt).kept hw.below hbl).c0)) ?_
      refine q1 (cl hb113 rfl (mc rfl mn) (fun w hw => rname_calls _ w)) ?_
      refine q1 (nt rfl) ?_
      refine q1 (mvb rfl) ?_
      refine q1g rfl (gwf rfl) (fun h => mvi rfl) ?_
      refine q1g rfl (gwf rfl) (fun h => gtr (gvt h) rfl) ?_
      refine q1g rfl (gwf rfl) (fun h => mvb (gvt h)) ?_
      refine q1g rfl (ggt rfl) (fun h => fa fa77_2 rfl) ?_
      refine q1g rfl (ggt rfl) (fun h => ldc 0 Try.isAgg75 rfl (gvt h) rfl) ?_
      refine q1g rfl (ggt rfl) (fun h => mvi rfl) ?_
      refine q1g rfl (ggt rfl) (fun h => isp sl75 hp (gvt h) (gvt h) (by omega) (by omega)) ?_
      refine q1g rfl (ggt rfl) (fun h => ldm (v := .string (c.tag i)) Try.isAgg9 (gvt h) (fun w' hw => ((hm i hlt).kept hw.below hbl).c0)) ?_
      refine q1g rfl (ggt rfl) (fun h => fa fa77_2 rfl) ?_
      refine q1g rfl (ggt rfl) (fun h => ldc 0 Try.isAgg75 rfl (gvt h) rfl) ?_
      refine q1g rfl (ggt rfl) (fun h => mvi rfl) ?_
      refine q1g rfl (ggt rfl) (fun h => subn (gvt h) rfl (ri (by omega) (by omega))) ?_
      refine q1g rfl (ggt rfl) (fun h => isp sl75 hp (gvt h) (gvt h) (by simp at h; omega) (by omega)) ?_
      refine q1g rfl (ggt rfl) (fun h => ldm (v := .string (c.tag (i - 1))) Try.isAgg9 (gvt h) (fun w' hw => by rw [show ((i : Int) - 1).toNat = i - 1 from by omega]; exact ((hm (i - 1) (by omega)).kept hw.below hbl).c0)) ?_
      refine q1g rfl (ggt rfl) (fun h => leqs (gvt h) (gvt h)) ?_
      refine q1g rfl (gwf rfl) (fun h => pk_and (gvt h) (gva h) rfl) ?_
      refine q1 (pk_or rfl rfl rfl) ?_
      refine qnil ?_
      refine nthen ?_
      refine cif rfl (fun h3 => ?_) (fun h3 => ?_)
      · change rtagBad c.tag i = _ at h3
        rw [rtag_eq] at h3
        refine cseq ?_
        refine creg ?_
        refine l1 (asgb rfl) ?_
        refine lnil ?_
        refine nthen ?_
        refine cret ?_
        refine nblkR ?_
        refine nthenR ?_
        refine nIR ?_
        refine nblkR ?_
        refine nthenR ?_
        exact fin1b rfl rfl (by rw [rfchB, h1, tags_bad hlt h3]; rfl)
      · change rtagBad c.tag i = _ at h3
        rw [rtag_eq] at h3
        refine cskip ?_
        refine nblkN ?_
        refine nthen ?_
        refine creg ?_
        refine l1 (mvi rfl) ?_
        first | refine l1 (addn rfl rfl (ri (by omega) (by omega))) ?_ | refine l1 (add rfl rfl) ?_
        refine l1 (asgi rfl) ?_
        refine lnil ?_
        exact nI (i + 1) ⟨by omega, fun j hj => (Nat.lt_succ_iff_lt_or_eq.1 hj).elim (fun h => hI.2 j h) (fun h => by subst h; exact h3)⟩ (by show c.gn - (i + 1) < c.gn - i; omega) ⟨rfl, rfl, trivial⟩ (List.Sublist.refl _)
    · skip
      refine cexit ?_
      refine nthenE ?_
      refine nIE ?_
      refine nblkE ?_
      refine nthen ?_
      refine cseq ?_
      refine creg ?_
      refine l1 (asgb rfl) ?_
      refine lnil ?_
      refine nthen ?_
      refine cret ?_
      exact fin1b rfl rfl (by rw [rfchB, h1, tags_good (fun j hj => hI.2 j (by have := df h2; omega))]; rfl)

def sameCh (a b : Ch) : Bool := bif decide ((a.gn : Int) ≠ (b.gn : Int)) then false else bif (List.range a.gn).any (fun i => !((a.tag i).toList == (b.tag i).toList)) then false else ((decide (a.op = b.op) && (a.name.toList == b.name.toList)) && (a.value.toList == b.value.toList))
theorem sameCh_no {a b : Ch} {i : Nat} (h : decide ((a.gn : Int) ≠ (b.gn : Int)) = false) (hi : i < a.gn) (hne : (!((a.tag i).toList == (b.tag i).toList)) = true) : sameCh a b = false := by
  unfold sameCh
  rw [h, List.any_eq_true.2 ⟨i, List.mem_range.2 hi, hne⟩]; rfl
theorem sameCh_yes {a b : Ch} (h : decide ((a.gn : Int) ≠ (b.gn : Int)) = false) (hall : ∀ i, i < a.gn → (!((a.tag i).toList == (b.tag i).toList)) = false) : sameCh a b = ((decide (a.op = b.op) && (a.name.toList == b.name.toList)) && (a.value.toList == b.value.toList)) := by
  unfold sameCh
  have : (List.range a.gn).any (fun i => !((a.tag i).toList == (b.tag i).toList)) = false := by
    rw [List.any_eq_false]
    intro i hi
    rw [hall i (List.mem_range.1 hi)]; simp
  rw [h, this]; rfl
def chz : Ch := ⟨0, ByteArray.empty, none, 0, 0, fun _ => ByteArray.empty, ByteArray.empty⟩
theorem bk77z : ∀ w, (Instr.build 77 #[]).run Try.prog w = .ok (.agg (encCh chz).toArray) w := fun w => by kernel_rfl
theorem chzIn (w : World) : ChIn w chz := ⟨.inl rfl⟩
theorem chz_same (c : Ch) : sameCh c chz = blankB c := by
  unfold sameCh blankB
  by_cases h : c.gn = 0
  · simp only [h, chz]
    simp [emptyB]
    rfl
  · have : decide ((c.gn : Int) ≠ (chz.gn : Int)) = true := by simp [chz]; omega
    rw [this]
    have h2 : decide ((c.gn : Int) = 0) = false := by simp; omega
    rw [h2]; simp
def rformedR (r : Rw) : Bool := bif !rformedH r.hd || r.hd.control then false else bif r.known then rfchB r.ch else sameCh r.ch chz
theorem rformedR_eq {r : Rw} (k : RwOk r) : rformedR r = formedR r := by
  unfold rformedR formedR
  rw [rformed_eq k.h.z, rfch_eq, chz_same]

set_option maxHeartbeats 1000000 in
theorem sameCh_calls (a b : Ch) (w : World) (ha : ChIn w a) (hb : ChIn w b) (hn1 : (a.gn : Int) ≤ 9223372036854775807) : Calls Try.prog 85 #[.agg (encCh a).toArray, .agg (encCh b).toArray] w (Ret (.bool (sameCh a b)) w) := by
  refine fn_calls (n := 50) Try.func85 rfl rfl (lb rfl) ?_
  refine cseq ?_
  refine creg ?_
  refine lbxa rfl (fun b1 => ?_)
  refine lbxa rfl (fun b2 => ?_)
  refine l1 (asgb rfl) ?_
  refine lnil ?_
  refine nthen ?_
  refine cseq ?_
  refine cseq ?_
  refine creg ?_
  refine l1 (fa fa77_2 rfl) ?_
  refine l1 (ldc 0 Try.isAgg75 rfl rfl rfl) ?_
  refine l1 (lens sl75 rfl rfl) ?_
  refine l1 (fa fa77_2 rfl) ?_
  refine l1 (ldc 1 Try.isAgg75 rfl rfl rfl) ?_
  refine l1 (lens sl75 rfl rfl) ?_
  refine l1 (neq rfl rfl) ?_
  refine lnil ?_
  refine nthen ?_
  refine cif rfl (fun h1 => ?_) (fun h1 => ?_)
  · skip
    refine cseq ?_
    refine creg ?_
    refine l1 (asgb rfl) ?_
    refine lnil ?_
    refine nthen ?_
    refine cret ?_
    refine nthenR ?_
    exact fin1b rfl rfl (by rw [sameCh, h1]; rfl)
  · have hgn := df2 h1
    refine cskip ?_
    refine nthen ?_
    refine cseq ?_
    refine cseq ?_
    refine creg ?_
    refine l1 (asgi rfl) ?_
    refine lnil ?_
    refine nthen ?_
    refine cblock ?_
    refine cloopI (σ := Nat) (fun s => [(2, .pointer (some ⟨b1, 0, none⟩)), (3, .pointer (some ⟨b2, 0, none⟩)), (5, .int .i64 (s : Int))]) (fun s => [⟨b1, encCh a, 77⟩, ⟨b2, encCh b, 77⟩]) (fun s => s ≤ a.gn ∧ ∀ j, j < s → (!((a.tag j).toList == (b.tag j).toList)) = false) (fun s => a.gn - s) 0 ⟨Nat.zero_le _, fun j hj => by omega⟩ ⟨rfl, rfl, rfl, trivial⟩ (List.Sublist.refl _) ?_
    rintro i j hI
    show WC _ _ _ ([⟨b1, encCh a, 77⟩, ⟨b2, encCh b, 77⟩]) _ _ (over j [(2, .pointer (some ⟨b1, 0, none⟩)), (3, .pointer (some ⟨b2, 0, none⟩)), (5, .int .i64 (i : Int))])
    replace hI : i ≤ a.gn ∧ ∀ j, j < i → (!((a.tag j).toList == (b.tag j).toList)) = false := hI
    refine cseq ?_
    refine cseq ?_
    refine creg ?_
    refine l1 (mvi rfl) ?_
    refine l1 (fa fa77_2 rfl) ?_
    refine l1 (ldc 0 Try.isAgg75 rfl rfl rfl) ?_
    refine l1 (lens sl75 rfl rfl) ?_
    refine l1 (lss rfl rfl) ?_
    refine lnil ?_
    refine nthen ?_
    refine cif rfl (fun h2 => ?_) (fun h2 => ?_)
    · have hlt : i < a.gn := by (have := dt h2; omega)
      obtain ⟨bq, o, hp, hbl, hm⟩ := ha.at hlt
      obtain ⟨bq2, o2, hp2, hbl2, hm2⟩ := hb.at (i := i) (by omega)
      refine cskip ?_
      refine nthen ?_
      refine cseq ?_
      refine cblock ?_
      refine cseq ?_
      refine cregq mo (by kernel_rfl) ?_
      refine q1 (fa fa77_2 rfl) ?_
      refine q1 (ldc 0 Try.isAgg75 rfl rfl rfl) ?_
      refine q1 (mvi rfl) ?_
      refine q1 (isp sl75 hp rfl rfl (by omega) (by omega)) ?_
      refine q1 (ldm (v := .string (a.tag i)) Try.isAgg9 rfl (fun w' hw => ((hm i hlt).kept hw.below hbl).c0)) ?_
      refine q1 (fa fa77_2 rfl) ?_
      refine q1 (ldc 1 Try.isAgg75 rfl rfl rfl) ?_
      refine q1 (mvi rfl) ?_
      refine q1 (isp sl75 hp2 rfl rfl (by omega) (by omega)) ?_
      refine q1 (ldm (v := .string (b.tag i)) Try.isAgg9 rfl (fun w' hw => ((hm2 i (by omega)).kept hw.below hbl2).c0)) ?_
      refine q1 (neqs rfl rfl) ?_
      refine qnil ?_
      refine nthen ?_
      refine cif rfl (fun h3 => ?_) (fun h3 => ?_)
      · skip
        refine cseq ?_
        refine creg ?_
        refine l1 (asgb rfl) ?_
        refine lnil ?_
        refine nthen ?_
        refine cret ?_
        refine nblkR ?_
        refine nthenR ?_
        refine nIR ?_
        refine nblkR ?_
        refine nthenR ?_
        exact fin1b rfl rfl ((sameCh_no h1 hlt h3).symm)
      · skip
        refine cskip ?_
        refine nblkN ?_
        refine nthen ?_
        refine creg ?_
        refine l1 (mvi rfl) ?_
        first | refine l1 (addn rfl rfl (ri (by omega) (by omega))) ?_ | refine l1 (add rfl rfl) ?_
        refine l1 (asgi rfl) ?_
        refine lnil ?_
        exact nI (i + 1) ⟨by omega, fun j hj => (Nat.lt_succ_iff_lt_or_eq.1 hj).elim (fun h => hI.2 j h) (fun h => by subst h; exact h3)⟩ (by show a.gn - (i + 1) < a.gn - i; omega) ⟨rfl, rfl, rfl, trivial⟩ (List.Sublist.refl _)
    · skip
      refine cexit ?_
      refine nthenE ?_
      refine nIE ?_
      refine nblkE ?_
      refine nthen ?_
      refine cseq ?_
      refine creg ?_
      refine l1 (fa fa77_0 rfl) ?_
      refine l1 (ldc 0 Try.isAgg3 rfl rfl rfl) ?_
      refine l1 (fa fa77_0 rfl) ?_
      refine l1 (ldc 1 Try.isAgg3 rfl rfl rfl) ?_
      refine l1 (eql rfl rfl) ?_
      refine l1 (mvb rfl) ?_
      refine l1g rfl (gwt rfl) (fun h => fa fa77_1 rfl) ?_
      refine l1g rfl (gwt rfl) (fun h => ldc 0 Try.isAgg9 rfl (gvt h) rfl) ?_
      refine l1g rfl (gwt rfl) (fun h => fa fa77_1 rfl) ?_
      refine l1g rfl (gwt rfl) (fun h => ldc 1 Try.isAgg9 rfl (gvt h) rfl) ?_
      refine l1g rfl (gwt rfl) (fun h => eqls (gvt h) (gvt h)) ?_
      refine l1 (pk_and rfl rfl rfl) ?_
      refine l1 (mvb rfl) ?_
      refine l1g rfl (gwt rfl) (fun h => fa fa77_3 rfl) ?_
      refine l1g rfl (gwt rfl) (fun h => ldc 0 Try.isAgg9 rfl (gvt h) rfl) ?_
      refine l1g rfl (gwt rfl) (fun h => fa fa77_3 rfl) ?_
      refine l1g rfl (gwt rfl) (fun h => ldc 1 Try.isAgg9 rfl (gvt h) rfl) ?_
      refine l1g rfl (gwt rfl) (fun h => eqls (gvt h) (gvt h)) ?_
      refine l1 (pk_and rfl rfl rfl) ?_
      refine l1 (asgb rfl) ?_
      refine lnil ?_
      refine nthen ?_
      refine cret ?_
      exact fin1b rfl rfl ((sameCh_yes h1 (fun j hj => hI.2 j (by have := df h2; omega))).symm)

theorem rrowformed_calls (x : Rw) (w : World) (hx : RwIn w x) (kx : RwOk x) : Calls Try.prog 49 #[.agg (encR x).toArray] w (Ret (.bool (rformedR x)) w) := by
  refine fn_calls (n := 21) Try.func49 rfl rfl (lb rfl) ?_
  refine cseq ?_
  refine creg ?_
  refine lbxa rfl (fun b1 => ?_)
  refine l1 (asgb rfl) ?_
  refine lnil ?_
  refine nthen ?_
  refine cseq ?_
  refine cseq ?_
  refine creg ?_
  refine l1 (fa fa79_0 rfl) ?_
  refine l1 (lda 0 Try.isAgg37 Try.sizeOf37 rfl rfl (encR_hd _) rfl) ?_
  refine l1 (cl hb77 rfl (mc rfl mn) (fun w hw => rformed_calls _ w (Sl.keptS hx.h hw) kx.h)) ?_
  refine l1 (nt rfl) ?_
  refine l1 (mvb rfl) ?_
  refine l1g rfl (gwf rfl) (fun h => fa fa79_0 rfl) ?_
  refine l1g rfl (gwf rfl) (fun h => fa fa37_4 (gvt h)) ?_
  refine l1g rfl (gwf rfl) (fun h => ldc 0 Try.isAgg4 rfl (gvt h) rfl) ?_
  refine l1 (pk_or rfl rfl rfl) ?_
  refine lnil ?_
  refine nthen ?_
  refine cif rfl (fun h1 => ?_) (fun h1 => ?_)
  · skip
    refine cseq ?_
    refine creg ?_
    refine l1 (asgb rfl) ?_
    refine lnil ?_
    refine nthen ?_
    refine cret ?_
    refine nthenR ?_
    exact fin1b rfl rfl (by first | rfl | (simp only [rformedR, h1, cond_true, cond_false]; done))
  · skip
    refine cskip ?_
    refine nthen ?_
    refine cseq ?_
    refine cseq ?_
    refine creg ?_
    refine l1 (fa fa79_1 rfl) ?_
    refine l1 (ldc 0 Try.isAgg4 rfl rfl rfl) ?_
    refine lnil ?_
    refine nthen ?_
    refine cif rfl (fun h2 => ?_) (fun h2 => ?_)
    · skip
      refine cseq ?_
      refine creg ?_
      refine l1 (fa fa79_2 rfl) ?_
      refine l1 (lda 0 Try.isAgg77 Try.sizeOf77 rfl rfl (encR_ch _) rfl) ?_
      refine l1 (cl hb84 rfl (mc rfl mn) (fun w hw => rfch_calls _ w (Sl.keptS hx.c hw) kx.c)) ?_
      refine l1 (asgb rfl) ?_
      refine lnil ?_
      refine nthen ?_
      refine cret ?_
      refine nthenR ?_
      exact fin1b rfl rfl (by first | rfl | (simp only [rformedR, h1, h2, cond_true, cond_false]; done))
    · skip
      refine cskip ?_
      refine nthen ?_
      refine cseq ?_
      refine creg ?_
      refine l1 (fa fa79_2 rfl) ?_
      refine l1 (lda 0 Try.isAgg77 Try.sizeOf77 rfl rfl (encR_ch _) rfl) ?_
      refine l1 (bld0 bk77z) ?_
      refine l1 (cl hb85 rfl (mc rfl (mc rfl mn)) (fun w hw => sameCh_calls _ _ w (Sl.keptS hx.c hw) (chzIn w) kx.c.n)) ?_
      refine l1 (asgb rfl) ?_
      refine lnil ?_
      refine nthen ?_
      refine cret ?_
      exact fin1b rfl rfl (by first | rfl | (simp only [rformedR, h1, h2, cond_true, cond_false]; done))
end Go.Proofs.Ytkdbjhlkahkobaa
/- blocks of the caller; closures; clear; a row laid out under a guard; append of some or none -/
/- functions that write into a block of their caller's; closures; clear -/
namespace Jal
open Go Go.RowKit
/-- a function walked from a world that is told of already -/
theorem fn_callsH {P : Program} {n : Nat} {f : FuncId} {fn : Func} {c : Code} {args : Array Value} {w0 w : World} {H : List Ent} {R : Ending → World → Prop} (hs : Sat w0 H w) (hf : P.funcs[f]? = some fn) (hb : fn.body = some c) (hn : fn.ntmps = n)
    (ha : args.size ≤ n) (h : WC P (bodyPost P fn R) w0 H c n (argF args)) : Calls P f args w R := by
  refine calls_of_wp hf hb ?_
  have he : ({ tmps := args ++ Array.replicate (fn.ntmps - args.size) undef, defers := [] } : Act) = fr n (argF args) := by
    unfold fr
    congr 1
    apply Array.ext_getElem?
    intro t
    have h2 := fr_get n (argF args) t
    rw [show ((List.range n).map (argF args)).toArray[t]? = (fr n (argF args)).tmps[t]? from rfl, h2]
    simp only [Array.getElem?_append, Array.getElem?_replicate, hn, argF]
    by_cases h1 : t < args.size
    · rw [if_pos h1, if_pos (by omega)]; simp [h1]
    · rw [if_neg h1]
      by_cases h3 : t < n
      · rw [if_pos (by omega), if_pos h3]; simp [h1]
      · rw [if_neg (by omega), if_neg h3]
  rw [he]
  exact h w hs
def RetS (w0 : World) (φ : Value → List Ent → Prop) : Ending → World → Prop := fun e w' => ∃ v H, e = .returned v ∧ φ v H ∧ Sat w0 H w'
theorem finS {P : Program} {w0 : World} {H : List Ent} {n : Nat} {F : Nat → Value} {fn : Func} {φ : Value → List Ent → Prop} (v : Value) (Hn : List Ent) (hr : ∀ w, Sat w0 H w → (results fn (fr n F).tmps).run P w = .ok v w) (hs : ∃ l : List Ent, l.Perm Hn ∧ l.Sublist H) (hφ : φ v Hn) :
    NQ (bodyPost P fn (RetS w0 φ)) w0 H .ret n F := fun w hw => by
  obtain ⟨l, hp, hl⟩ := hs
  exact ⟨rfl, v, hr w hw, v, Hn, rfl, hφ, (hw.sub hl).perm hp.symm⟩
section
variable {P : Program} {ops : Array Oper} {Q : Exit → Act → World → Prop} {w0 : World} {H : List Ent} {rest : List Oper} {n : Nat} {F : Nat → Value} {d : Nat} {op : Op} {ty : TypeId} {pos : String} {af : Array Edge} {v : Value}
theorem lcls (Hc : List Ent) {f : FuncId} {fx : Operand} {xs : List Operand} {ats : Array TypeId} {args : List Value} {φ : Value → List Ent → Prop} (hb : HasBody P f) (hfx : ev n F fx = .func (.func f) #[] #[])
    (hx : xs.map (ev n F) = args) (hc : ∀ w, Sat w0 Hc w → Calls P f args.toArray w (RetS w0 φ)) (hs : ∃ l : List Ent, l.Perm Hc ∧ l.Sublist H)
    (h : ∀ v Hn, φ v Hn → WL P ops Q w0 Hn rest n (upd F d v)) :
    WL P ops Q w0 H (⟨some d, .call { callee := .value fx, args := xs.toArray, argTypes := ats }, ty, pos, af, none⟩ :: rest) n F := fun w hw => wpList_plain rfl fun K hK => by
  obtain ⟨fn, h1, h2, h3⟩ := hb.h
  obtain ⟨c, hcb⟩ := Option.isSome_iff_exists.1 h3
  obtain ⟨l, hp, hl⟩ := hs
  have h2' : fn.name ≠ "runtime.NumGoroutine" := by simpa using h2
  have hr : (execOp (ev n F) ⟨some d, .call { callee := .value fx, args := xs.toArray, argTypes := ats }, ty, pos, af, none⟩).run P w = .ok (.enter f args.toArray) w := by
    simp [execOp, resolve, hfx, hx, Deferred.ofValue, invoke, callFunc, Sem.run, program, h1, h2', hcb]
  unfold Oper.wp
  rw [fr_eval, hr]
  refine (hc w ((hw.sub hl).perm hp.symm)).mono fun e w' ⟨v, Hn, h4, h5, h6⟩ => ?_
  subst h4
  exact hK _ _ (by rw [fr_put]; exact h v Hn h5 _ h6)
/-- clear: the rest of a row of our own -/
theorem lclear (i : Nat) {t e : TypeId} {size bytes : Nat} {x : Operand} {b : Nat} {cur zs cs' : List Value} {o m c : Nat} (hT : ElT P t e size bytes) (hi : H[i]? = some ⟨b, cur, e⟩) (hx : ev n F x = .slice (some ⟨b, o, none⟩) m c) (hm : 0 < m)
    (hz : ∀ z : Value, (∃ i, P.info? e = some i ∧ i.zero = some z) → (Builtin.zeroCells z.cells m).toList = zs) (hl : zs.length = m * size) (h1 : ∀ v ∈ zs, v.oneCell' = true) (hol : o + zs.length ≤ cur.length)
    (hcs : cur.take o ++ zs ++ cur.drop (o + zs.length) = cs') (h : WL P ops Q w0 (H.set i ⟨b, cs', e⟩) rest n F) :
    WL P ops Q w0 H (⟨none, .call { callee := .builtin .clear, args := #[x], argTypes := #[t] }, ty, pos, af, none⟩ :: rest) n F := fun w hw => wpList_plain rfl fun K hK => by
  obtain ⟨inf, z, ht, hin, hzz, hsize, hbytes, hzs, hpos⟩ := hT.h
  have hs := hw.set hi cs'
  have hb := (hw.own _ (List.mem_of_getElem? hi)).2
  have hst := run_storeCells_at P b o e zs 0 cur.toArray w hb (by simpa using hol) h1
  have hz' := hz z ⟨inf, hin, hzz⟩
  have hr : (execOp (ev n F) ⟨none, .call { callee := .builtin .clear, args := #[x], argTypes := #[t] }, ty, pos, af, none⟩).run P w = .ok (.value (.tuple #[])) (w.setRow b cs'.toArray) := by
    simp only [Nat.add_zero] at hst
    unfold execOp
    simp only [resolve, invoke, builtin, Sem.run_bind, Sem.run_pure, Result.andThen_ok, List.map_toArray, List.map_cons, List.map_nil, hx]
    have hzv : (zeroValue e).run P w = .ok z w := by simp [zeroValue, typeInfo, hin, hzz]
    cases m with
    | zero => omega
    | succ m =>
      simp [Builtin.clear_, run_underlying ht, hzv, hz', hst, ← hcs]
  unfold Oper.wp
  rw [fr_eval, hr]
  exact hK _ _ (by rw [fr_put_none]; exact h _ hs)
end
section
variable {P : Program} {C : World → Prop} {ρ : Operand → Value} {d : Option Tmp} {ty : TypeId} {pos : String} {af : Array Edge} {g : Option (Nat × Bool)}
/-- a call of a closure -/
theorem clc {w0 : World} {H : List Ent} {f : FuncId} {fx : Operand} {xs : List Operand} {ats : Array TypeId} {args lb : List Value} {v : Value} (hb : HasBody P f) (hfx : ρ fx = .func (.func f) #[] lb.toArray)
    (hx : xs.map ρ = args) (hc : ∀ w, Sat w0 H w → Calls P f (args ++ lb).toArray w (Ret v w)) :
    Qu P (Sat w0 H) ρ ⟨d, .call { callee := .value fx, args := xs.toArray, argTypes := ats }, ty, pos, af, g⟩ v := fun w hw => by
  obtain ⟨fn, h1, h2, h3⟩ := hb.h
  obtain ⟨c, hcb⟩ := Option.isSome_iff_exists.1 h3
  have h2' : fn.name ≠ "runtime.NumGoroutine" := by simpa using h2
  have hr : (execOp ρ ⟨d, .call { callee := .value fx, args := xs.toArray, argTypes := ats }, ty, pos, af, g⟩).run P w = .ok (.enter f (args ++ lb).toArray) w := by
    simp [execOp, resolve, hfx, hx, Deferred.ofValue, invoke, callFunc, Sem.run, program, h1, h2', hcb]
  rw [hr]
  exact ⟨rfl, (hc w hw).mono fun e w' h => ⟨h.1, hw.step h.2⟩⟩
theorem mkf1 {f : Fn} {x : Operand} {v : Value} (hx : ρ x = v) : Qu P C ρ ⟨d, .makeFunc f #[] #[x], ty, pos, af, g⟩ (.func f #[] [v].toArray) :=
  qu_of_run fun w _ => by simp [execOp, Instr.makeFunc, hx]
/-- a slice cut at a lower bound -/
theorem sllo {t e : TypeId} {sz : Nat} {x y : Operand} {b o n c m : Nat} {k : IntKind} (hu : P.underlying t = some (.slice e)) (hs : ∀ w, (Go.sizeOf e).run P w = .ok sz w) (hx : ρ x = .slice (some ⟨b, o, none⟩) n c) (hy : ρ y = .int k (m : Int)) (hm : m ≤ n) (hc : m < c) :
    Qu P C ρ ⟨d, .slice t x (some y) none none, ty, pos, af, g⟩ (.slice (some ⟨b, o + m * sz, none⟩) (n - m) (c - m)) :=
  qu_of_run fun w _ => by
    have hb : (Instr.sliceBound (.int k (m : Int)) n .sliceB).run P w = .ok m w := by
      have : (0 : Int) ≤ m ∧ (m : Int) ≤ n := by omega
      simp [Instr.sliceBound, asIntOf, hm]
    have hcm : ¬ c = m := by omega
    simp [execOp, hx, hy, Instr.sliceAt, Instr.slice, Instr.sliceBounds, run_underlying hu, hs, hb, hcm, Addr.add_off]
end
end Jal
/- a row laid out under a guard -/
namespace Jal
open Go Go.RowKit
section
variable {P : Program} {ops : Array Oper} {Q : Exit → Act → World → Prop} {w0 : World} {H : List Ent} {rest : List Oper} {n : Nat} {F : Nat → Value} {d : Nat} {ty : TypeId} {pos : String} {af : Array Edge}
theorem lbsg {j dj : Nat} {want g : Bool} {t e : TypeId} {len : Nat} {parts : List (Nat × Operand)} {vals : List (Nat × Value)} {cs : List Value} (hj : (ops[j]?).bind (·.dst) = some dj) (hg : GW (ev n F (.tmp dj)) want g)
    (hp : g = true → parts.map (fun p => (p.1, ev n F p.2)) = vals)
    (hr : ∀ w : World, (Instr.buildSlice t len vals.toArray).run P w = .ok (.slice (some ⟨w.heap.size, 0, none⟩) len len) (w.alloc (.cells cs.toArray e)))
    (h : ∀ b E, (g = true → E = [⟨b, cs, e⟩]) → WL P ops Q w0 (H ++ E) rest n (upd F d (gv g (.slice (some ⟨b, 0, none⟩) len len)))) : WL P ops Q w0 H (⟨some d, .buildSlice t len parts.toArray, ty, pos, af, some (j, want)⟩ :: rest) n F :=
  fun w hw => wpList_step fun K hK => by
  rw [wanted_fr rfl hj hg]
  cases g with
  | true =>
    rw [if_pos rfl]
    have hr' := hr w
    have hp' := hp rfl
    subst hp'
    have e1 : (parts.toArray.map fun x : Nat × Operand => (x.1, ev n F x.2)) = (parts.map fun p => (p.1, ev n F p.2)).toArray := by simp
    have hx : (execOp (ev n F) ⟨some d, .buildSlice t len parts.toArray, ty, pos, af, some (j, want)⟩).run P w = .ok (.value (.slice (some ⟨w.heap.size, 0, none⟩) len len)) (w.alloc (.cells cs.toArray e)) := by
      unfold execOp
      show (Sem.run P (do let v ← Instr.buildSlice t len (parts.toArray.map fun x : Nat × Operand => (x.1, ev n F x.2)); pure (Next.value v)) w) = _
      rw [e1, Sem.run_bind, hr']; rfl
    unfold Oper.wp
    rw [fr_eval, hx]
    refine hK _ _ ?_
    rw [fr_put]
    have h1 := h w.heap.size [⟨w.heap.size, cs, e⟩] (fun _ => rfl)
    rw [gvt rfl] at h1
    exact h1 _ (hw.alloc cs e)
  | false =>
    rw [if_neg (by simp)]
    have h1 := h 0 [] (fun e => by cases e)
    rw [gv_false, List.append_nil] at h1
    exact hK _ _ (by rw [fr_put]; exact h1 w hw)
/-- append of some, or of none -/
theorem lappx {t e : TypeId} {size bytes : Nat} {s x : Operand} {k cp g0 : Nat} {xs news : List Value} {p : Option Addr} {m c : Nat} (A B oe : List Ent) (hT : ElT P t e size bytes) (hH : H = A ++ (oe ++ B))
    (hs : ev n F s = .slice (some ⟨g0, 0, none⟩) k cp) (hown : OwnL e size (.slice (some ⟨g0, 0, none⟩) k cp) k xs oe) (hx : ev n F x = .slice p m c) (hl : news.length = m * size) (hnews : 0 < m → ∃ ad, p = some ad ∧ ∀ w, Sat w0 H w → Mem w ad news) (h1 : ∀ u ∈ news, u.oneCell' = true)
    (h63 : k + m ≤ maxLen) (hby : (k + m) * bytes ≤ 140737488355328)
    (h : ∀ g cap oe', OwnL e size (.slice (some ⟨g, 0, none⟩) (k + m) cap) (k + m) (xs ++ news) oe' → WL P ops Q w0 (A ++ (oe' ++ B)) rest n (upd F d (.slice (some ⟨g, 0, none⟩) (k + m) cap))) :
    WL P ops Q w0 H (⟨some d, .call { callee := .builtin .append, args := #[s, x], argTypes := #[t, t] }, ty, pos, af, none⟩ :: rest) n F := by
  rcases Nat.eq_zero_or_pos m with hm | hm
  · subst hm
    obtain rfl : news = [] := List.eq_nil_of_length_eq_zero (by omega)
    have h2 := h g0 cp oe (by simpa using hown)
    rw [← hH] at h2
    exact l1 (lapp0 hT hs (OwnL_cap hown).1 hx) h2
  · obtain ⟨ad, rfl, hmem⟩ := hnews hm
    exact lapp A B oe hT hH hs hown hx hl hmem h1 hm h63 hby h
theorem OwnL.blk {e : TypeId} {size g k cap : Nat} {xs : List Value} {oe : List Ent} (h : OwnL e size (.slice (some ⟨g, 0, none⟩) k cap) k xs oe) : ∃ cur, oe = [⟨g, cur, e⟩] := by
  rcases h.2 with ⟨h1, _⟩ | ⟨g', cap', cur, h1, h2, _⟩
  · cases h1
  · cases h1; exact ⟨cur, h2⟩
end
end Jal
/- what came, and how much more there is: plain laws; rows in blocks of our own, read -/
namespace Go.Proofs.Ytkdbjhlkahkobaa
open Jal Go.RowKit
set_option maxRecDepth 100000
theorem SlIn_some {H : List Ent} {p : Option Addr} {n sz : Nat} {el : Nat → List Value} (h : SlIn H p n sz el) {i : Nat} (hi : i < n) : ∃ b, p = some ⟨b, 0, none⟩ := by
  rcases h with h | ⟨e, _, h, _⟩
  · omega
  · exact ⟨e.b, h⟩
theorem SlIn_mem {w0 w : World} {H : List Ent} {p : Option Addr} {n sz : Nat} {el : Nat → List Value} {b : Nat} (h : SlIn H p n sz el) (hp : p = some ⟨b, 0, none⟩) (hw : Sat w0 H w) {i : Nat} (hi : i < n) : Mem w ⟨b, 0 + i * sz, none⟩ (el i) := by
  rcases h with h | ⟨e, he, h1, h2⟩
  · omega
  · rw [hp] at h1
    simp only [Option.some.injEq, Addr.mk.injEq, and_true] at h1
    intro j v hv
    rw [Addr.add_off]
    simp only [World.cell?, h1, (hw.own e he).2]
    have := h2 i hi j v hv
    simpa [Nat.zero_add] using this
theorem ord_slIn {hs : List Hd} {v0 : Vec} {v : Vec} {O : List Hd} {p : Option Addr} {c : Nat} {oe tl : List Ent} (h : OrdOk hs v0 ⟨v, O, .slice p O.length c, oe, tl⟩) : SlIn oe p O.length 125 (fun i => encH (O.getD i hz)) :=
  h.own.slInL (fun a => rfl) (fun i hi => ⟨_, List.getElem?_eq_getElem hi, by rw [List.getD_eq_getElem?_getD, List.getElem?_eq_getElem hi]; rfl⟩)
theorem getD_get {O : List Hd} {i : Nat} (h : i < O.length) : O[i]? = some (O.getD i hz) := by
  rw [List.getD_eq_getElem?_getD, List.getElem?_eq_getElem h]; rfl
theorem getD_mem {O : List Hd} {i : Nat} (h : i < O.length) : O.getD i hz ∈ O := List.mem_of_getElem? (getD_get h)
theorem runV_take {v : Vec} {O : List Hd} {i : Nat} (h : i < O.length) : runV v (O.take (i + 1)) = putV (runV v (O.take i)) (O.getD i hz) := by
  rw [List.take_add_one, getD_get h]
  exact runV_snoc v _ _
theorem more_small {a b : Int} (h : 0 ≤ b - a) (h' : b - a ≤ 1000) : moreI a b = b - a := by
  unfold moreI
  by_cases hc : b > a
  · rw [decide_eq_true hc, ru (by omega) (by omega)]; simp only [cond_true]; omega
  · rw [decide_eq_false hc]; simp only [cond_false]; omega
def isum : Nat → (Nat → Int) → Int
  | 0, _ => 0
  | n + 1, f => isum n f + f n
theorem sumV_small (f : Nat → Int) : ∀ n, n ≤ 6 → (∀ i, i < n → 0 ≤ f i ∧ f i ≤ 1000) → sumV n f = isum n f ∧ 0 ≤ isum n f ∧ isum n f ≤ (n : Int) * 1000
  | 0, _, _ => ⟨rfl, by simp [isum], by simp [isum]⟩
  | n + 1, hn, h => by
    obtain ⟨h1, h2, h3⟩ := sumV_small f n (by omega) (fun i hi => h i (by omega))
    have h4 := h n (by omega)
    show addU (sumV n f) (f n) = isum n f + f n ∧ 0 ≤ isum n f + f n ∧ isum n f + f n ≤ _
    rw [h1, addU_small (by omega) (by omega)]
    exact ⟨rfl, by omega, by omega⟩
theorem isum_congr {f g : Nat → Int} : ∀ n, (∀ i, i < n → f i = g i) → isum n f = isum n g
  | 0, _ => rfl
  | n + 1, h => by
    show isum n f + f n = isum n g + g n
    rw [isum_congr n (fun i hi => h i (by omega)), h n (by omega)]
theorem path_grow {hs : List Hd} {v0 v : Vec} {O : List Hd} (h : Path hs v0 O v) : (∀ i, i < 6 → 0 ≤ v i - v0 i ∧ v i - v0 i ≤ O.length) ∧ isum 6 (fun i => v i - v0 i) = O.length := by
  induction h with
  | nil => refine ⟨fun i _ => ⟨by omega, by simp⟩, ?_⟩; simp [isum]
  | snoc hP hp hc ih =>
    rename_i O1 v' h1 o1
    obtain ⟨ih1, ih2⟩ := ih
    obtain ⟨_, hr, _⟩ := pick_spec hp
    obtain ⟨hf, hv⟩ := ready_formed hr
    have hw := formed_w hf
    rw [List.length_append]
    simp only [List.length_cons, List.length_nil]
    have hk6 : (h1.writer - 1).toNat < 6 := by omega
    have hput : ∀ i, putV v' h1 i = bif Nat.beq i (h1.writer - 1).toNat then h1.seq else v' i := fun i => rfl
    generalize (h1.writer - 1).toNat = k at *
    have g0 := ih1 0 (by omega)
    have g1 := ih1 1 (by omega)
    have g2 := ih1 2 (by omega)
    have g3 := ih1 3 (by omega)
    have g4 := ih1 4 (by omega)
    have g5 := ih1 5 (by omega)
    simp only [isum] at ih2 ⊢
    constructor
    · intro i hi
      rw [hput]
      have hi6 := ih1 i hi
      cases hb : Nat.beq i k with
      | false => simp only [cond_false]; omega
      | true =>
        have := Nat.eq_of_beq_eq_true hb
        subst this
        simp only [cond_true]; omega
    · rw [hput 0, hput 1, hput 2, hput 3, hput 4, hput 5]
      rcases six hk6 with rfl | rfl | rfl | rfl | rfl | rfl <;> simp only [Nat.beq, cond_true, cond_false] <;> omega
theorem path_great {hs : List Hd} {v0 v : Vec} {O : List Hd} (h : Path hs v0 O v) : greatV v v0 = true := great_iff.2 fun i hi => by have := (path_grow h).1 i hi; omega
theorem path_miss {hs : List Hd} {v0 v : Vec} {O : List Hd} (h : Path hs v0 O v) (hl : O.length ≤ 1000) : missV v0 v = O.length := by
  obtain ⟨h1, h2⟩ := path_grow h
  have h3 : ∀ i, i < 6 → eachV moreI v0 v i = v i - v0 i := fun i hi => more_small (h1 i hi).1 (by have := (h1 i hi).2; omega)
  unfold missV
  rw [(sumV_small _ 6 (by omega) (fun i hi => by rw [h3 i hi]; have := h1 i hi; omega)).1, isum_congr 6 h3, h2]
end Go.Proofs.Ytkdbjhlkahkobaa
/- headers turned round: plain laws -/
namespace Go.Proofs.Ytkdbjhlkahkobaa
open Jal Go.RowKit
set_option maxRecDepth 100000
theorem flat_set {α : Type} {f : α → List Value} {sz : Nat} (hf : ∀ a, (f a).length = sz) : ∀ (P : List α) (i : Nat) (x : α), i < P.length → (P.set i x).flatMap f = (P.flatMap f).take (i * sz) ++ f x ++ (P.flatMap f).drop (i * sz + sz)
  | [], _, _, h => by simp at h
  | a :: P, 0, x, _ => by
    have h1 : List.drop (0 * sz + sz) (f a ++ List.flatMap f P) = List.flatMap f P := by
      rw [Nat.zero_mul, Nat.zero_add, ← hf a]; exact List.drop_left
    rw [List.set_cons_zero, List.flatMap_cons, List.flatMap_cons, h1]
    simp
  | a :: P, i + 1, x, h => by
    have ih := flat_set hf P i x (by simpa using h)
    rw [List.set_cons_succ, List.flatMap_cons, List.flatMap_cons, ih]
    have h1 : List.take ((i + 1) * sz) (f a ++ List.flatMap f P) = f a ++ List.take (i * sz) (List.flatMap f P) := by
      rw [List.take_append, hf a, List.take_of_length_le (by rw [hf a, Nat.add_mul]; omega)]
      congr 2
      rw [Nat.add_mul]; omega
    have h2 : List.drop ((i + 1) * sz + sz) (f a ++ List.flatMap f P) = List.drop (i * sz + sz) (List.flatMap f P) := by
      rw [List.drop_append, hf a, List.drop_eq_nil_of_le (by rw [hf a, Nat.add_mul]; omega)]
      rw [List.nil_append]
      congr 1
      rw [Nat.add_mul]; omega
    rw [h1, h2]
    simp
theorem ownL_set {α : Type} {f : α → List Value} {e : TypeId} {sz : Nat} {g cap n : Nat} {cur : List Value} {P : List α} (hf : ∀ a, (f a).length = sz) (h : OwnL e sz (.slice (some ⟨g, 0, none⟩) n cap) n (P.flatMap f) [⟨g, cur, e⟩]) (hP : P.length = n) {i : Nat} (hi : i < n) (x : α) :
    OwnL e sz (.slice (some ⟨g, 0, none⟩) n cap) n ((P.set i x).flatMap f) [⟨g, cur.take (i * sz) ++ f x ++ cur.drop (i * sz + sz), e⟩] := by
  rcases h.2 with ⟨h1, _⟩ | ⟨g', cap', cur', h1, h2, h3, h4, h5, h6⟩
  · cases h1
  · cases h1; cases h2
    have hb : i * sz + sz ≤ n * sz := by have := Nat.mul_le_mul_right sz (show i + 1 ≤ n from hi); rwa [Nat.add_mul, Nat.one_mul] at this
    have hc : n * sz ≤ cap * sz := Nat.mul_le_mul_right sz h3
    refine ⟨by rw [flatM_len hf, List.length_set, hP], .inr ⟨g, cap, _, rfl, rfl, h3, h4, ?_, ?_⟩⟩
    · simp only [List.length_append, List.length_take, List.length_drop, hf, h5]; omega
    · rw [flat_set hf P i x (by omega), ← h6]
      rw [List.append_assoc, List.append_assoc, List.take_append, List.take_append, List.length_take, hf, List.take_take, List.take_take]
      have e1 : min (n * sz) (i * sz) = i * sz := by omega
      have e2 : min (i * sz) (n * sz) = i * sz := by omega
      have e3 : min (i * sz) cur.length = i * sz := by omega
      rw [e1, e2, e3, List.take_of_length_le (l := f x) (by rw [hf]; omega), List.drop_take]
      congr 3
      omega
theorem ownL_form {α : Type} {f : α → List Value} {e : TypeId} {sz n : Nat} {p : Option Addr} {c : Nat} {P : List α} {oe : List Ent} (h : OwnL e sz (.slice p n c) n (P.flatMap f) oe) (hn : 0 < n) : ∃ g cur, p = some ⟨g, 0, none⟩ ∧ oe = [⟨g, cur, e⟩] ∧ n * sz ≤ cur.length := by
  rcases h.2 with ⟨_, h0, _⟩ | ⟨g, cap, cur, h1, h2, h3, h4, h5, h6⟩
  · omega
  · cases h1
    exact ⟨g, cur, rfl, h2, by rw [h5]; exact Nat.mul_le_mul_right sz h3⟩
theorem swap_perm {α : Type} (d : α) : ∀ (P : List α) (i : Nat), i + 1 < P.length → ((P.set i (P.getD (i + 1) d)).set (i + 1) (P.getD i d)).Perm P
  | [], _, h => by simp at h
  | [a], _, h => by simp at h
  | a :: b :: t, 0, _ => by simpa using List.Perm.swap a b t
  | a :: b :: t, i + 1, h => by
    have ih := swap_perm d (b :: t) i (by simpa using h)
    simpa using List.Perm.cons a ih
theorem turn_perm (n a : Nat) : ((List.range n).map (fun i => (i + a) % n)).Perm (List.range n) := by
  have e : (List.range n).map (fun i => (i + a) % n) = (List.range n).drop (a % n) ++ (List.range n).take (a % n) := by
    apply List.ext_getElem?
    intro i
    rcases Nat.eq_zero_or_pos n with h0 | h0
    · subst h0; simp
    have hm : a % n < n := Nat.mod_lt _ h0
    have hma : (i + a) % n = (i + a % n) % n := by rw [Nat.add_mod, Nat.add_mod i (a % n), Nat.mod_mod]
    rw [List.getElem?_map, List.getElem?_append]
    simp only [List.length_drop, List.length_range, List.getElem?_drop, List.getElem?_take]
    by_cases hi : i < n
    · rw [List.getElem?_range hi]
      by_cases h1 : i < n - a % n
      · rw [if_pos h1, List.getElem?_range (by omega)]
        simp only [Option.map_some, hma]
        rw [Nat.mod_eq_of_lt (by omega), Nat.add_comm]
      · rw [if_neg h1, if_pos (by omega), List.getElem?_range (by omega)]
        simp only [Option.map_some, hma]
        have : (i + a % n) % n = i + a % n - n := by rw [Nat.mod_eq_sub_mod (by omega), Nat.mod_eq_of_lt (by omega)]
        rw [this]; congr 1; omega
    · rw [List.getElem?_eq_none (by simpa using hi)]
      rw [if_neg (by omega)]
      split
      · rw [List.getElem?_eq_none (by simp; omega)]; rfl
      · rfl
  rw [e]
  have := List.perm_append_comm (l₁ := (List.range n).drop (a % n)) (l₂ := (List.range n).take (a % n))
  rwa [List.take_append_drop] at this
def Uniq (hs : List Hd) : Prop := ∀ x ∈ hs, ∀ y ∈ hs, x.writer = y.writer → x.seq = y.seq → x = y
theorem uniq_of {n : Nat} {l : Nat → Hd} (h : ∀ a, a < n → ∀ b, b < a → ¬ ((l a).writer = (l b).writer ∧ (l a).seq = (l b).seq)) : Uniq ((List.range n).map l) := by
  intro x hx y hy h1 h2
  obtain ⟨a, ha, rfl⟩ := List.mem_map.1 hx
  obtain ⟨b, hb, rfl⟩ := List.mem_map.1 hy
  have ha := List.mem_range.1 ha
  have hb := List.mem_range.1 hb
  rcases Nat.lt_trichotomy a b with hab | hab | hab
  · exact absurd ⟨h1.symm, h2.symm⟩ (h b hb a hab)
  · rw [hab]
  · exact absurd ⟨h1, h2⟩ (h a ha b hab)
theorem pick_perm {hs P : List Hd} (hp : P.Perm hs) (hu : Uniq hs) (v : Vec) : pick hs v = pick P v := by
  have hfp := hp.filter (readyH v)
  cases h1 : pick hs v with
  | none =>
    have := pick_none.1 h1
    rw [this] at hfp
    exact (pick_none.2 hfp.eq_nil).symm
  | some h =>
    cases h2 : pick P v with
    | none =>
      have := pick_none.1 h2
      rw [this] at hfp
      have h3 := pick_none.2 (List.Perm.eq_nil hfp.symm)
      rw [h3] at h1; cases h1
    | some h' =>
      obtain ⟨a1, a2, a3⟩ := pick_spec h1
      obtain ⟨b1, b2, b3⟩ := pick_spec h2
      have c1 := a3 h' (hp.mem_iff.1 b1) b2
      have c2 := b3 h (hp.mem_iff.2 a1) a2
      rw [first_iff] at c1 c2
      have hw : h.writer = h'.writer := by omega
      have hv := (ready_formed a2).2
      have hv' := (ready_formed b2).2
      rw [hw, hv'] at hv
      rw [hu h a1 h' (hp.mem_iff.1 b1) hw (by omega)]
theorem map_getD (P : List Hd) : (List.range P.length).map (fun i => P.getD i hz) = P := by
  apply List.ext_getElem?
  intro i
  rw [List.getElem?_map]
  by_cases hi : i < P.length
  · rw [List.getElem?_range hi, getD_get hi]; rfl
  · rw [List.getElem?_eq_none (by simpa using hi), List.getElem?_eq_none (by omega)]; rfl
end Go.Proofs.Ytkdbjhlkahkobaa
/- rows: the latest of some; rows in a block; items -/
/- rows: the latest of some: plain laws -/
namespace Go.Proofs.Ytkdbjhlkahkobaa
open Jal Go.RowKit
set_option maxRecDepth 100000
def rz : Rw := ⟨hz, false, ⟨0, ByteArray.empty, none, 0, 0, fun _ => ByteArray.empty, ByteArray.empty⟩⟩
def rowsL {α : Type} (l : Nat → α) (n : Nat) : List α := (List.range n).map l
theorem rowsL_len {α : Type} (l : Nat → α) (n : Nat) : (rowsL l n).length = n := by simp [rowsL]
theorem rowsL_get {α : Type} {l : Nat → α} {n i : Nat} (h : i < n) : (rowsL l n)[i]? = some (l i) := by simp [rowsL, h]
theorem rowsL_flat {α : Type} (f : α → List Value) (l : Nat → α) (n : Nat) : (rowsL l n).flatMap f = (List.range n).flatMap (fun i => f (l i)) := by
  unfold rowsL; rw [List.flatMap_map]
theorem el74 : ElT Try.prog 74 79 130 304 := by
  obtain ⟨i, h1, h2, h3, h4⟩ := info_parts (P := Try.prog) (e := 79) (z := .agg (encR rz).toArray) (size := 130) (bytes := 304) (by kernel_rfl)
  exact ⟨i, _, Try.underlying74, h1, h2, h3, h4, rfl, by decide⟩
theorem el75 : ElT Try.prog 75 9 1 16 := by
  obtain ⟨i, h1, h2, h3, h4⟩ := info_parts (P := Try.prog) (e := 9) (z := .string ByteArray.empty) (size := 1) (bytes := 16) (by kernel_rfl)
  exact ⟨i, _, Try.underlying75, h1, h2, h3, h4, rfl, by decide⟩
theorem bs74z : ∀ w : World, (Instr.buildSlice 74 0 #[]).run Try.prog w = .ok (.slice (some ⟨w.heap.size, 0, none⟩) 0 0) (w.alloc (.cells [].toArray 79)) := fun w => by kernel_rfl
theorem bs75z : ∀ w : World, (Instr.buildSlice 75 0 #[]).run Try.prog w = .ok (.slice (some ⟨w.heap.size, 0, none⟩) 0 0) (w.alloc (.cells [].toArray 9)) := fun w => by kernel_rfl
theorem bs74 (x : Rw) : ∀ w : World, (Instr.buildSlice 74 1 #[(0, .agg (encR x).toArray)]).run Try.prog w = .ok (.slice (some ⟨w.heap.size, 0, none⟩) 1 1) (w.alloc (.cells (encR x).toArray 79)) := fun w => by kernel_rfl
theorem bk79z : ∀ w, (Instr.build 79 #[]).run Try.prog w = .ok (.agg (encR rz).toArray) w := fun w => by kernel_rfl
def anyR (_ : Rw) : Bool := true
def knownR (r : Rw) : Bool := r.known
def valuedR (r : Rw) : Bool := r.known && decide (r.ch.op ≠ 3)
/-- the latest of a list, the first of those that are alike -/
def maxL (m : Rw) (l : List Rw) : Rw := l.foldl (fun m x => bif decide (cmpH x.hd m.hd > 0) then x else m) m
def maxT (L : List Rw) (i : Nat) : Rw := maxL (L.getD 0 rz) ((L.drop 1).take i)
theorem getD_getR {O : List Rw} {i : Nat} (h : i < O.length) : O[i]? = some (O.getD i rz) := by
  rw [List.getD_eq_getElem?_getD, List.getElem?_eq_getElem h]; rfl
theorem maxT_succ {L : List Rw} {i : Nat} (h : i + 1 < L.length) : maxT L (i + 1) = bif decide (cmpH (L.getD (i + 1) rz).hd (maxT L i).hd > 0) then L.getD (i + 1) rz else maxT L i := by
  unfold maxT
  have h1 : (L.drop 1).take (i + 1) = (L.drop 1).take i ++ [L.getD (i + 1) rz] := by
    rw [List.take_add_one, List.getElem?_drop, Nat.add_comm 1 i, List.getElem?_eq_getElem h]
    simp [List.getD_eq_getElem?_getD, List.getElem?_eq_getElem h]
  rw [h1]
  unfold maxL
  rw [List.foldl_append]; rfl
theorem maxT_t {L : List Rw} {i : Nat} (h : i + 1 < L.length) (hd : decide (cmpH (L.getD (i + 1) rz).hd (maxT L i).hd > 0) = true) : maxT L (i + 1) = L.getD (i + 1) rz := by rw [maxT_succ h, hd]; rfl
theorem maxT_f {L : List Rw} {i : Nat} (h : i + 1 < L.length) (hd : decide (cmpH (L.getD (i + 1) rz).hd (maxT L i).hd > 0) = false) : maxT L (i + 1) = maxT L i := by rw [maxT_succ h, hd]; rfl
def latR (q : Rw → Bool) (L : List Rw) : Rw × Bool := bif decide (((L.filter q).length : Int) = 0) then (rz, false) else (maxT (L.filter q) ((L.filter q).length - 1), true)
/-- deleting in place -/
structure DelInv (q : Rw → Bool) (L : List Rw) (j i : Nat) (P : List Rw) : Prop where
  len : P.length = L.length
  ij : i < j
  jn : j ≤ L.length
  head : P.take i = (L.take j).filter q
  tail : P.drop j = L.drop j
theorem take_filter_all {q : Rw → Bool} {L : List Rw} {i : Nat} (h : ∀ k, k < i → ∀ r, L[k]? = some r → q r = true) : (L.take i).filter q = L.take i := by
  refine List.filter_eq_self.2 fun r hr => ?_
  obtain ⟨k, hk⟩ := List.getElem?_of_mem hr
  rw [List.getElem?_take] at hk
  split at hk
  · rename_i hlt; exact h k hlt r hk
  · cases hk
theorem take_succR {L : List Rw} {j : Nat} (h : j < L.length) : L.take (j + 1) = L.take j ++ [L.getD j rz] := by
  rw [List.take_add_one, getD_getR h]; rfl
theorem DelInv.start {q : Rw → Bool} {L : List Rw} {i : Nat} (hi : i < L.length) (h : ∀ k, k < i → ∀ r, L[k]? = some r → q r = true) (hq : q (L.getD i rz) = false) : DelInv q L (i + 1) i L := by
  refine ⟨rfl, by omega, by omega, ?_, rfl⟩
  rw [take_succR hi, List.filter_append, take_filter_all h, List.filter_cons, hq, List.filter_nil]
  exact (List.append_nil _).symm
theorem DelInv.skip {q : Rw → Bool} {L P : List Rw} {i j : Nat} (h : DelInv q L j i P) (hj : j < L.length) (hq : q (L.getD j rz) = false) : DelInv q L (j + 1) i P := by
  refine ⟨h.len, by have := h.ij; omega, by omega, ?_, ?_⟩
  · rw [take_succR hj, List.filter_append, ← h.head, List.filter_cons, hq, List.filter_nil]
    exact (List.append_nil _).symm
  · rw [← List.drop_drop, h.tail, List.drop_drop]
theorem DelInv.keep {q : Rw → Bool} {L P : List Rw} {i j : Nat} (h : DelInv q L j i P) (hj : j < L.length) (hq : q (L.getD j rz) = true) : DelInv q L (j + 1) (i + 1) (P.set i (L.getD j rz)) := by
  have hij := h.ij
  have hl := h.len
  refine ⟨by rw [List.length_set]; exact hl, by omega, by omega, ?_, ?_⟩
  · rw [take_succR hj, List.filter_append, ← h.head]
    have : (P.set i (L.getD j rz)).take (i + 1) = P.take i ++ [L.getD j rz] := by
      rw [List.take_add_one, List.getElem?_set_self (by omega), List.take_set_of_le (by omega)]
      rfl
    rw [this, List.filter_cons, hq, List.filter_nil]; rfl
  · rw [List.drop_set_of_lt (by omega), ← List.drop_drop, h.tail, List.drop_drop]
theorem DelInv.get {q : Rw → Bool} {L P : List Rw} {i j : Nat} (h : DelInv q L j i P) (hj : j < L.length) : P.getD j rz = L.getD j rz := by
  have h1 : (P.drop j)[0]? = (L.drop j)[0]? := by rw [h.tail]
  rw [List.getElem?_drop, List.getElem?_drop] at h1
  rw [List.getD_eq_getElem?_getD, List.getD_eq_getElem?_getD]
  simpa using congrArg (·.getD rz) h1
theorem DelInv.done {q : Rw → Bool} {L P : List Rw} {i : Nat} (h : DelInv q L L.length i P) : P.take i = L.filter q ∧ i = (L.filter q).length := by
  have h1 := h.head
  rw [List.take_length] at h1
  refine ⟨h1, ?_⟩
  rw [← h1, List.length_take]
  have := h.ij; have := h.len
  omega
theorem DelInv.done' {q : Rw → Bool} {L P : List Rw} {i j : Nat} (h : DelInv q L j i P) (hj : j = L.length) : P.take i = L.filter q ∧ i = (L.filter q).length := by
  subst hj; exact h.done
end Go.Proofs.Ytkdbjhlkahkobaa
/- rows in a block: read, written, cleared -/
namespace Go.Proofs.Ytkdbjhlkahkobaa
open Jal Go.RowKit
set_option maxRecDepth 100000
section
variable {α : Type} {f : α → List Value} {sz : Nat}
theorem flat_split (hf : ∀ a, (f a).length = sz) (P : List α) (R : List Value) {j : Nat} (hj : j ≤ P.length) : P.flatMap f ++ R = (P.take j).flatMap f ++ ((P.drop j).flatMap f ++ R) ∧ ((P.take j).flatMap f).length = j * sz := by
  refine ⟨?_, ?_⟩
  · rw [← List.append_assoc, ← List.flatMap_append, List.take_append_drop]
  · rw [flatM_len hf, List.length_take, Nat.min_eq_left hj]
theorem flat_take (hf : ∀ a, (f a).length = sz) (P : List α) (R : List Value) {j : Nat} (hj : j ≤ P.length) : (P.flatMap f ++ R).take (j * sz) = (P.take j).flatMap f := by
  obtain ⟨h1, h2⟩ := flat_split hf P R hj
  rw [h1, ← h2, List.take_left']; rfl
theorem flat_drop (hf : ∀ a, (f a).length = sz) (P : List α) (R : List Value) {j : Nat} (hj : j ≤ P.length) : (P.flatMap f ++ R).drop (j * sz) = (P.drop j).flatMap f ++ R := by
  obtain ⟨h1, h2⟩ := flat_split hf P R hj
  rw [h1, ← h2, List.drop_left']; rfl
end
theorem drop_consR {P : List Rw} {j : Nat} (hj : j < P.length) : P.drop j = P.getD j rz :: P.drop (j + 1) := by
  rw [List.drop_eq_getElem_cons hj, List.getD_eq_getElem?_getD, List.getElem?_eq_getElem hj]; rfl
theorem rows_read {P : List Rw} {R : List Value} {j : Nat} {x : Rw} (hj : j < P.length) (hx : P.getD j rz = x) : ((P.flatMap encR ++ R).drop (0 + j * 130)).take 130 = encR x := by
  rw [Nat.zero_add, flat_drop encR_len P R (Nat.le_of_lt hj), drop_consR hj, List.flatMap_cons, List.append_assoc, hx, List.take_left' (encR_len x)]
theorem rows_write {P : List Rw} {R : List Value} {i : Nat} {x : Rw} (hi : i < P.length) : (P.flatMap encR ++ R).take (0 + i * 130) ++ encR x ++ (P.flatMap encR ++ R).drop (0 + i * 130 + (encR x).length) = (P.set i x).flatMap encR ++ R := by
  rw [encR_len, Nat.zero_add, show i * 130 + 130 = (i + 1) * 130 by omega, flat_take encR_len P R (Nat.le_of_lt hi), flat_drop encR_len P R (j := i + 1) (by omega), List.set_eq_take_append_cons_drop, if_pos hi]
  simp [List.flatMap_append, List.append_assoc]
theorem rows_len (P : List Rw) (R : List Value) : (P.flatMap encR ++ R).length = P.length * 130 + R.length := by rw [List.length_append, flatM_len encR_len]
def zrows (m : Nat) : List Value := (Builtin.zeroCells (encR rz).toArray m).toList
theorem zrows_len (m : Nat) : (zrows m).length = m * 130 := by
  unfold zrows
  rw [Array.length_toList, size_zeroCells]; rfl
theorem zrows_one (m : Nat) : ∀ v ∈ zrows m, v.oneCell' = true := by
  intro v hv
  unfold zrows Builtin.zeroCells at hv
  rw [Array.toList_map] at hv
  obtain ⟨i, _, rfl⟩ := List.mem_map.1 hv
  have h : i % (encR rz).toArray.size < (encR rz).toArray.size := Nat.mod_lt _ (by decide)
  rw [getElem!_pos (encR rz).toArray _ h]
  exact encR_one rz _ (by rw [List.getElem_toArray]; exact List.getElem_mem _)
theorem zrows_is (m : Nat) : ∀ z : Value, (∃ i, Try.prog.info? 79 = some i ∧ i.zero = some z) → (Builtin.zeroCells z.cells m).toList = zrows m := by
  rintro z ⟨i, h1, h2⟩
  obtain ⟨i', h1', h2', _⟩ := info_parts (P := Try.prog) (e := 79) (z := .agg (encR rz).toArray) (size := 130) (bytes := 304) (by kernel_rfl)
  rw [h1] at h1'
  cases h1'
  rw [h2] at h2'
  cases h2'
  rfl
/-- what was cleared behind i rows -/
theorem rows_cleared {P : List Rw} {R : List Value} {n i cap g : Nat} (hP : P.length = n) (hi : i < n) (hn : n ≤ cap) (hc : cap ≤ maxLen) (hR : n * 130 + R.length = cap * 130) :
    OwnL 79 130 (.slice (some ⟨g, 0, none⟩) i cap) i ((P.take i).flatMap encR) [⟨g, (P.flatMap encR ++ R).take (0 + i * 130) ++ zrows (n - i) ++ (P.flatMap encR ++ R).drop (0 + i * 130 + (zrows (n - i)).length), 79⟩] := by
  have hil : i ≤ P.length := by omega
  have h1 : ((P.take i).flatMap encR).length = i * 130 := by rw [flatM_len encR_len, List.length_take, Nat.min_eq_left hil]
  refine ⟨h1, .inr ⟨g, cap, _, rfl, rfl, by omega, hc, ?_, ?_⟩⟩
  · rw [Nat.zero_add, flat_take encR_len P R hil, zrows_len, List.length_append, List.length_append, h1, zrows_len, List.length_drop, rows_len, hP]
    omega
  · rw [Nat.zero_add, flat_take encR_len P R hil, List.append_assoc, ← h1, List.take_left' rfl]
end Go.Proofs.Ytkdbjhlkahkobaa
/- items as plain data -/
namespace Go.Proofs.Ytkdbjhlkahkobaa
open Jal Go.RowKit
set_option maxRecDepth 100000
structure It where
  tok : Nat → Int
  hd : Hd
  known : Bool
  alive : Bool
  name : ByteArray
  gp : Option Addr
  gn : Nat
  gc : Nat
  tag : Nat → ByteArray
  value : ByteArray
def encI (i : It) : List Value := arr .u8 16 i.tok ++ (encH i.hd ++ [.bool i.known, .bool i.alive, .string i.name, .slice i.gp i.gn i.gc, .string i.value])
def iz : It := ⟨fun _ => 0, hz, false, false, ByteArray.empty, none, 0, 0, fun _ => ByteArray.empty, ByteArray.empty⟩
theorem encI_len (i : It) : (encI i).length = 146 := rfl
theorem encI_tok (i : It) : ((encI i).drop 0).take 16 = arr .u8 16 i.tok := rfl
theorem encI_hd (i : It) : ((encI i).drop 16).take 125 = encH i.hd := rfl
theorem encI_one (i : It) : ∀ u ∈ encI i, u.oneCell' = true := oneA rfl
theorem encI_setAlive (i : It) (a : Bool) : (encI i).set 142 (.bool a) = encI { i with alive := a } := rfl
theorem encI_setTags (i : It) (p : Option Addr) (n c : Nat) (t : Nat → ByteArray) : (encI i).set 144 (.slice p n c) = encI { i with gp := p, gn := n, gc := c, tag := t } := rfl
theorem encI_setValue (i : It) (v : ByteArray) : (encI i).set 145 (.string v) = encI { i with value := v } := rfl
theorem encI_setTok (i : It) (p : Option Addr) (c : Nat) : (encI i).set (0 + 16 + 53) (.slice p i.hd.tn c) = encI { i with hd := { i.hd with tp := p, tc := c } } := rfl
theorem bk83 (t : Nat → Int) (h : Hd) (k : Bool) (s : ByteArray) : ∀ w, (Instr.build 83 #[(0, .agg (arr .u8 16 t).toArray), (1, .agg (encH h).toArray), (2, .bool k), (4, .string s)]).run Try.prog w = .ok (.agg (encI ⟨t, h, k, false, s, none, 0, 0, fun _ => ByteArray.empty, ByteArray.empty⟩).toArray) w := fun w => by kernel_rfl
def coreI (i : It) : It := { i with hd := core i.hd, gp := none, gc := 0 }
/-- the item of some rows -/
def madeI (tok : Nat → Int) (L : List Rw) : It :=
  bif (latR valuedR L).2 && decide ((latR valuedR L).1.ch.op = 1) then
    ⟨tok, (latR anyR L).1.hd, (latR anyR L).1.known, true, (latR knownR L).1.ch.name, (latR knownR L).1.ch.gp, (latR knownR L).1.ch.gn, (latR knownR L).1.ch.gc, (latR knownR L).1.ch.tag, (latR valuedR L).1.ch.value⟩
  else ⟨tok, (latR anyR L).1.hd, (latR anyR L).1.known, false, (latR knownR L).1.ch.name, none, 0, 0, fun _ => ByteArray.empty, ByteArray.empty⟩
structure ItIn (H : List Ent) (i : It) : Prop where
  h : SlIn H i.hd.tp i.hd.tn 16 (fun k => arr .u8 16 (i.hd.tok k))
  g : SlIn H i.gp i.gn 1 (fun k => encT (i.tag k))
theorem maxL_mem (m : Rw) : ∀ (l : List Rw), maxL m l = m ∨ maxL m l ∈ l
  | [] => .inl rfl
  | x :: l => by
    have e : maxL m (x :: l) = maxL (bif decide (cmpH x.hd m.hd > 0) then x else m) l := rfl
    rw [e]
    rcases maxL_mem (bif decide (cmpH x.hd m.hd > 0) then x else m) l with h | h
    · rw [h]
      cases decide (cmpH x.hd m.hd > 0) with
      | true => exact .inr (by simp)
      | false => exact .inl rfl
    · exact .inr (List.mem_cons_of_mem _ h)
theorem maxT_mem {L : List Rw} {i : Nat} (h : 0 < L.length) : maxT L i ∈ L := by
  unfold maxT
  rcases maxL_mem (L.getD 0 rz) ((L.drop 1).take i) with h1 | h1
  · rw [h1, List.getD_eq_getElem?_getD, List.getElem?_eq_getElem h]
    exact List.getElem_mem h
  · exact List.mem_of_mem_drop (List.mem_of_mem_take h1)
theorem lat_all {q : Rw → Bool} {l : Nat → Rw} {n : Nat} {Pr : Rw → Prop} (h0 : Pr rz) (h : ∀ i, i < n → Pr (l i)) : Pr (latR q (rowsL l n)).1 := by
  unfold latR
  cases hd : decide ((((rowsL l n).filter q).length : Int) = 0) with
  | true => exact h0
  | false =>
    have h1 : 0 < ((rowsL l n).filter q).length := by simp only [decide_eq_false_iff_not] at hd; omega
    have h2 := (List.mem_filter.1 (maxT_mem (i := ((rowsL l n).filter q).length - 1) h1)).1
    obtain ⟨i, hi, h3⟩ := List.mem_map.1 h2
    show Pr (maxT ((rowsL l n).filter q) (((rowsL l n).filter q).length - 1))
    rw [← h3]
    exact h i (List.mem_range.1 hi)
end Go.Proofs.Ytkdbjhlkahkobaa
/- walks, printed by a program of ours -/
namespace Go.Proofs.Ytkdbjhlkahkobaa
open Jal Go.RowKit
set_option maxRecDepth 100000
theorem clrp_calls (w : World) (p : Option Addr) (n c : Nat) (l : Nat → Rw) (hn : n ≤ 100) (hl : Sl w p n 130 (fun i => encR (l i))) (hpos : 0 < n) : Calls Try.prog 133 #[.slice p n c] w (RetM (fun v Hn => OwnL 79 130 v n ((List.range n).flatMap (fun i => encR (l i))) Hn) w) := by
  refine fn_calls (n := 8) Try.func133 rfl rfl (lb rfl) ?_
  obtain ⟨b, o, rfl, hbl, hm⟩ := hl.at hpos
  refine cseq ?_
  refine creg ?_
  refine l1 (asgs rfl) ?_
  refine lnil ?_
  refine nthen ?_
  refine cseq ?_
  refine cseq ?_
  refine creg ?_
  refine l1 (mvs rfl) ?_
  refine l1 (eqnil sl74 rfl rfl) ?_
  refine lnil ?_
  refine nthen ?_
  refine ciff rfl ?_
  refine cskip ?_
  refine nthen ?_
  refine cseq ?_
  refine creg ?_
  refine lbs Try.underlying74 rfl (bs74z) (fun b1 => ?_)
  refine l1 (mvs rfl) ?_
  refine lapp [] [] [⟨b1, [], 79⟩] (xs := []) el74 rfl rfl ⟨rfl, .inr ⟨b1, 0, [], rfl, rfl, Nat.le_refl _, by decide, rfl, rfl⟩⟩ rfl (news := (List.range n).flatMap (fun i => encR (l i))) (by rw [flatM_len (sz := 130) (fun a => rfl), List.length_range]) (fun w' hw => (mem_flat (by decide) (fun i => rfl) (fun i hi => (hm i hi).kept hw.below hbl))) (fun u hu => by obtain ⟨i, _, hi⟩ := List.mem_flatMap.1 hu; exact encR_one (l i) u hi) hpos (by unfold maxLen; omega) (by omega) ?_
  intro g cap oe hown0
  have hown : OwnL 79 130 (.slice (some ⟨g, 0, none⟩) n cap) n ((List.range n).flatMap (fun i => encR (l i))) oe := by simpa using hown0
  refine l1 (asgs rfl) ?_
  refine lnil ?_
  refine nthen ?_
  refine cret ?_
  exact finM (.slice (some ⟨g, 0, none⟩) (0 + n) cap) oe (rv1 rfl (rvt rfl)) ⟨oe, List.Perm.refl _, by simp⟩ (by rw [Nat.zero_add]; exact hown)

theorem clrn_calls (w : World) (c : Nat) (l : Nat → Rw) : Calls Try.prog 133 #[.slice none 0 c] w (RetM (fun v Hn => OwnL 79 130 v 0 ((List.range 0).flatMap (fun i => encR (l i))) Hn) w) := by
  refine fn_calls (n := 8) Try.func133 rfl rfl (lb rfl) ?_
  refine cseq ?_
  refine creg ?_
  refine l1 (asgs rfl) ?_
  refine lnil ?_
  refine nthen ?_
  refine cseq ?_
  refine cseq ?_
  refine creg ?_
  refine l1 (mvs rfl) ?_
  refine l1 (eqnil sl74 rfl rfl) ?_
  refine lnil ?_
  refine nthen ?_
  refine cift rfl ?_
  refine cseq ?_
  refine creg ?_
  refine l1 (asgs rfl) ?_
  refine lnil ?_
  refine nthen ?_
  refine cret ?_
  refine nthenR ?_
  exact finM _ [] (rv1 rfl (rvt rfl)) ⟨[], List.Perm.refl _, List.nil_sublist _⟩ (OwnL.nil 79 130)

theorem clr0_calls (w : World) (a : Addr) (c : Nat) (l : Nat → Rw) : Calls Try.prog 133 #[.slice (some a) 0 c] w (RetM (fun v Hn => OwnL 79 130 v 0 ((List.range 0).flatMap (fun i => encR (l i))) Hn) w) := by
  refine fn_calls (n := 8) Try.func133 rfl rfl (lb rfl) ?_
  refine cseq ?_
  refine creg ?_
  refine l1 (asgs rfl) ?_
  refine lnil ?_
  refine nthen ?_
  refine cseq ?_
  refine cseq ?_
  refine creg ?_
  refine l1 (mvs rfl) ?_
  refine l1 (eqnil sl74 rfl rfl) ?_
  refine lnil ?_
  refine nthen ?_
  refine ciff rfl ?_
  refine cskip ?_
  refine nthen ?_
  refine cseq ?_
  refine creg ?_
  refine lbs Try.underlying74 rfl (bs74z) (fun b1 => ?_)
  refine l1 (mvs rfl) ?_
  refine l1 (lapp0 el74 rfl (Nat.le_refl _) rfl) ?_
  refine l1 (asgs rfl) ?_
  refine lnil ?_
  refine nthen ?_
  refine cret ?_
  exact finM _ [⟨b1, [], 79⟩] (rv1 rfl (rvt rfl)) ⟨_, List.Perm.refl _, List.Sublist.refl _⟩ ⟨rfl, .inr ⟨b1, 0, [], rfl, rfl, Nat.le_refl _, by decide, rfl, rfl⟩⟩

theorem clr_calls (w : World) (p : Option Addr) (n c : Nat) (l : Nat → Rw) (hn : n ≤ 100) (hl : Sl w p n 130 (fun i => encR (l i))) : Calls Try.prog 133 #[.slice p n c] w (RetM (fun v Hn => OwnL 79 130 v n ((List.range n).flatMap (fun i => encR (l i))) Hn) w) := by
  rcases Nat.eq_zero_or_pos n with h | h
  · subst h
    cases p with
    | none => exact clrn_calls w c l
    | some a => exact clr0_calls w a c l
  · exact clrp_calls w p n c l hn hl h

theorem clsp_calls (w : World) (p : Option Addr) (n c : Nat) (l : Nat → ByteArray) (hn : n ≤ 100) (hl : Sl w p n 1 (fun i => encT (l i))) (hpos : 0 < n) : Calls Try.prog 118 #[.slice p n c] w (RetM (fun v Hn => OwnL 9 1 v n ((List.range n).flatMap (fun i => encT (l i))) Hn) w) := by
  refine fn_calls (n := 8) Try.func118 rfl rfl (lb rfl) ?_
  obtain ⟨b, o, rfl, hbl, hm⟩ := hl.at hpos
  refine cseq ?_
  refine creg ?_
  refine l1 (asgs rfl) ?_
  refine lnil ?_
  refine nthen ?_
  refine cseq ?_
  refine cseq ?_
  refine creg ?_
  refine l1 (mvs rfl) ?_
  refine l1 (eqnil sl75 rfl rfl) ?_
  refine lnil ?_
  refine nthen ?_
  refine ciff rfl ?_
  refine cskip ?_
  refine nthen ?_
  refine cseq ?_
  refine creg ?_
  refine lbs Try.underlying75 rfl (bs75z) (fun b1 => ?_)
  refine l1 (mvs rfl) ?_
  refine lapp [] [] [⟨b1, [], 9⟩] (xs := []) el75 rfl rfl ⟨rfl, .inr ⟨b1, 0, [], rfl, rfl, Nat.le_refl _, by decide, rfl, rfl⟩⟩ rfl (news := (List.range n).flatMap (fun i => encT (l i))) (by rw [flatM_len (sz := 1) (fun a => rfl), List.length_range]) (fun w' hw => (mem_flat (by decide) (fun i => rfl) (fun i hi => (hm i hi).kept hw.below hbl))) (fun u hu => by obtain ⟨i, _, hi⟩ := List.mem_flatMap.1 hu; exact (oneA (vs := encT (l i)) rfl) u hi) hpos (by unfold maxLen; omega) (by omega) ?_
  intro g cap oe hown0
  have hown : OwnL 9 1 (.slice (some ⟨g, 0, none⟩) n cap) n ((List.range n).flatMap (fun i => encT (l i))) oe := by simpa using hown0
  refine l1 (asgs rfl) ?_
  refine lnil ?_
  refine nthen ?_
  refine cret ?_
  exact finM (.slice (some ⟨g, 0, none⟩) (0 + n) cap) oe (rv1 rfl (rvt rfl)) ⟨oe, List.Perm.refl _, by simp⟩ (by rw [Nat.zero_add]; exact hown)

theorem clsn_calls (w : World) (c : Nat) (l : Nat → ByteArray) : Calls Try.prog 118 #[.slice none 0 c] w (RetM (fun v Hn => OwnL 9 1 v 0 ((List.range 0).flatMap (fun i => encT (l i))) Hn) w) := by
  refine fn_calls (n := 8) Try.func118 rfl rfl (lb rfl) ?_
  refine cseq ?_
  refine creg ?_
  refine l1 (asgs rfl) ?_
  refine lnil ?_
  refine nthen ?_
  refine cseq ?_
  refine cseq ?_
  refine creg ?_
  refine l1 (mvs rfl) ?_
  refine l1 (eqnil sl75 rfl rfl) ?_
  refine lnil ?_
  refine nthen ?_
  refine cift rfl ?_
  refine cseq ?_
  refine creg ?_
  refine l1 (asgs rfl) ?_
  refine lnil ?_
  refine nthen ?_
  refine cret ?_
  refine nthenR ?_
  exact finM _ [] (rv1 rfl (rvt rfl)) ⟨[], List.Perm.refl _, List.nil_sublist _⟩ (OwnL.nil 9 1)

theorem cls0_calls (w : World) (a : Addr) (c : Nat) (l : Nat → ByteArray) : Calls Try.prog 118 #[.slice (some a) 0 c] w (RetM (fun v Hn => OwnL 9 1 v 0 ((List.range 0).flatMap (fun i => encT (l i))) Hn) w) := by
  refine fn_calls (n := 8) Try.func118 rfl rfl (lb rfl) ?_
  refine cseq ?_
  refine creg ?_
  refine l1 (asgs rfl) ?_
  refine lnil ?_
  refine nthen ?_
  refine cseq ?_
  refine cseq ?_
  refine creg ?_
  refine l1 (mvs rfl) ?_
  refine l1 (eqnil sl75 rfl rfl) ?_
  refine lnil ?_
  refine nthen ?_
  refine ciff rfl ?_
  refine cskip ?_
  refine nthen ?_
  refine cseq ?_
  refine creg ?_
  refine lbs Try.underlying75 rfl (bs75z) (fun b1 => ?_)
  refine l1 (mvs rfl) ?_
  refine l1 (lapp0 el75 rfl (Nat.le_refl _) rfl) ?_
  refine l1 (asgs rfl) ?_
  refine lnil ?_
  refine nthen ?_
  refine cret ?_
  exact finM _ [⟨b1, [], 9⟩] (rv1 rfl (rvt rfl)) ⟨_, List.Perm.refl _, List.Sublist.refl _⟩ ⟨rfl, .inr ⟨b1, 0, [], rfl, rfl, Nat.le_refl _, by decide, rfl, rfl⟩⟩

theorem cls_calls (w : World) (p : Option Addr) (n c : Nat) (l : Nat → ByteArray) (hn : n ≤ 100) (hl : Sl w p n 1 (fun i => encT (l i))) : Calls Try.prog 118 #[.slice p n c] w (RetM (fun v Hn => OwnL 9 1 v n ((List.range n).flatMap (fun i => encT (l i))) Hn) w) := by
  rcases Nat.eq_zero_or_pos n with h | h
  · subst h
    cases p with
    | none => exact clsn_calls w c l
    | some a => exact cls0_calls w a c l
  · exact clsp_calls w p n c l hn hl h

theorem any_calls (x : Rw) (w : World) : Calls Try.prog 115 #[.agg (encR x).toArray] w (Ret (.bool (anyR x)) w) := by
  refine fn_calls (n := 3) Try.func115 rfl rfl (lb rfl) ?_
  refine cseq ?_
  refine creg ?_
  refine lbxa rfl (fun b1 => ?_)
  refine l1 (asgb rfl) ?_
  refine lnil ?_
  refine nthen ?_
  refine cseq ?_
  refine creg ?_
  refine l1 (asgb rfl) ?_
  refine lnil ?_
  refine nthen ?_
  refine cret ?_
  exact fin1b rfl rfl (by first | rfl | (simp only [anyR, decide_eq_true_eq, cond_true, cond_false]; done) | (simp only [anyR, decide_eq_true_eq, cond_true, cond_false]; rfl))

theorem known_calls (x : Rw) (w : World) : Calls Try.prog 116 #[.agg (encR x).toArray] w (Ret (.bool (knownR x)) w) := by
  refine fn_calls (n := 5) Try.func116 rfl rfl (lb rfl) ?_
  refine cseq ?_
  refine creg ?_
  refine lbxa rfl (fun b1 => ?_)
  refine l1 (asgb rfl) ?_
  refine lnil ?_
  refine nthen ?_
  refine cseq ?_
  refine creg ?_
  refine l1 (fa fa79_1 rfl) ?_
  refine l1 (ldc 0 Try.isAgg4 rfl rfl rfl) ?_
  refine l1 (asgb rfl) ?_
  refine lnil ?_
  refine nthen ?_
  refine cret ?_
  exact fin1b rfl rfl (by first | rfl | (simp only [knownR, decide_eq_true_eq, cond_true, cond_false]; done) | (simp only [knownR, decide_eq_true_eq, cond_true, cond_false]; rfl))

theorem valued_calls (x : Rw) (w : World) : Calls Try.prog 117 #[.agg (encR x).toArray] w (Ret (.bool (valuedR x)) w) := by
  refine fn_calls (n := 11) Try.func117 rfl rfl (lb rfl) ?_
  refine cseq ?_
  refine creg ?_
  refine lbxa rfl (fun b1 => ?_)
  refine l1 (asgb rfl) ?_
  refine lnil ?_
  refine nthen ?_
  refine cseq ?_
  refine creg ?_
  refine l1 (fa fa79_1 rfl) ?_
  refine l1 (ldc 0 Try.isAgg4 rfl rfl rfl) ?_
  refine l1 (mvb rfl) ?_
  refine l1g rfl (gwt rfl) (fun h => fa fa79_2 rfl) ?_
  refine l1g rfl (gwt rfl) (fun h => fa fa77_0 (gvt h)) ?_
  refine l1g rfl (gwt rfl) (fun h => ldc 0 Try.isAgg3 rfl (gvt h) rfl) ?_
  refine l1g rfl (gwt rfl) (fun h => neq (gvt h) rfl) ?_
  refine l1 (pk_and rfl rfl rfl) ?_
  refine l1 (asgb rfl) ?_
  refine lnil ?_
  refine nthen ?_
  refine cret ?_
  exact fin1b rfl rfl (by first | rfl | (simp only [valuedR, decide_eq_true_eq, cond_true, cond_false]; done) | (simp only [valuedR, decide_eq_true_eq, cond_true, cond_false]; rfl))

def PredC (w : World) (f : FuncId) (es : List Value) (q : Rw → Bool) (x : Rw) : Prop := ∀ w' H, Sat w H w' → Calls Try.prog f (.agg (encR x).toArray :: es).toArray w' (Ret (.bool (q x)) w')

theorem nota_calls (x : Rw) (w : World) (k : FuncId) (q : Rw → Bool) (b : Nat) (hk : HasBody Try.prog k) (hq : PredC w k [] q x) (hb : b < w.heap.size) (hm : w.cell? ⟨b, 0, none⟩ = some (.func (.func k) #[] #[])) : Calls Try.prog 134 #[.agg (encR x).toArray, .pointer (some ⟨b, 0, none⟩)] w (Ret (.bool (!q x)) w) := by
  refine fn_calls (n := 8) Try.func134 rfl rfl (lb rfl) ?_
  refine cseq ?_
  refine creg ?_
  refine lbxa rfl (fun b1 => ?_)
  refine l1 (asgb rfl) ?_
  refine lnil ?_
  refine nthen ?_
  refine cseq ?_
  refine creg ?_
  refine l1 (ldm (v := .func (.func k) #[] #[]) Try.isAgg81 rfl (fun w' hw => (hw.below.cell hb).trans hm)) ?_
  refine l1 (ldw 0 Try.isAgg79 Try.sizeOf79 rfl rfl rfl) ?_
  refine l1 (cl hk rfl (mc rfl mn) (fun w' hw => hq w' _ hw)) ?_
  refine l1 (nt rfl) ?_
  refine l1 (asgb rfl) ?_
  refine lnil ?_
  refine nthen ?_
  refine cret ?_
  exact fin1b rfl rfl rfl

def idxR (q : Rw → Bool) (l : Nat → Rw) (n : Nat) : Int := match (List.range n).find? (fun i => q (l i)) with | some i => (i : Int) | none => -1
theorem find_range {p : Nat → Bool} {n i : Nat} (hi : i < n) (h : p i = true) (hb : ∀ j, j < i → p j = false) : (List.range n).find? p = some i := by
  rw [List.find?_range_eq_some]
  exact ⟨h, List.mem_range.2 hi, fun j hj => by simpa using hb j hj⟩
theorem idx_yes {q : Rw → Bool} {l : Nat → Rw} {n i : Nat} (hi : i < n) (h : q (l i) = true) (hb : ∀ j, j < i → q (l j) = false) : idxR q l n = (i : Int) := by
  unfold idxR
  rw [find_range (p := fun i => q (l i)) hi h hb]
theorem idx_no {q : Rw → Bool} {l : Nat → Rw} {n : Nat} (hb : ∀ j, j < n → q (l j) = false) : idxR q l n = -1 := by
  unfold idxR
  rw [List.find?_range_eq_none.2 (fun j hj => by simpa using hb j hj)]
theorem idx_case (q : Rw → Bool) (l : Nat → Rw) (n : Nat) : (idxR q l n = -1 ∧ ∀ j, j < n → q (l j) = false) ∨ ∃ i : Nat, idxR q l n = (i : Int) ∧ i < n ∧ q (l i) = true ∧ ∀ j, j < i → q (l j) = false := by
  cases h : (List.range n).find? (fun i => q (l i)) with
  | none =>
    refine .inl ⟨by unfold idxR; rw [h], fun j hj => ?_⟩
    have := List.find?_range_eq_none.1 h j hj
    simpa using this
  | some i =>
    have h2 := List.find?_range_eq_some.1 h
    exact .inr ⟨i, by unfold idxR; rw [h], List.mem_range.1 h2.2.1, h2.1, fun j hj => by simpa using h2.2.2 j hj⟩

theorem idxf_calls (w : World) (p : Option Addr) (n c : Nat) (l : Nat → Rw) (hn : n ≤ 100) (hl : Sl w p n 130 (fun i => encR (l i))) (f : FuncId) (es : List Value) (q : Rw → Bool) (hf : HasBody Try.prog f) (hq : ∀ i, i < n → PredC w f es q (l i)) : Calls Try.prog 148 #[.slice p n c, .func (.func f) #[] es.toArray] w (Ret (.int .i64 (idxR q l n)) w) := by
  refine fn_calls (n := 19) Try.func148 rfl rfl (lb rfl) ?_
  refine cseq ?_
  refine creg ?_
  refine l1 (asgi rfl) ?_
  refine lnil ?_
  refine nthen ?_
  refine cseq ?_
  refine cseq ?_
  refine creg ?_
  refine l1 (mvs rfl) ?_
  refine l1 (lens sl74 rfl rfl) ?_
  refine l1 (mvi rfl) ?_
  refine lnil ?_
  refine nthen ?_
  refine cblock ?_
  refine cloopI (σ := Nat) (fun s => [(0, .slice p n c), (1, .func (.func f) #[] es.toArray), (7, .int .i64 (n : Int)), (8, .int .i64 (s : Int))]) (fun s => []) (fun s => s ≤ n ∧ ∀ j, j < s → q (l j) = false) (fun s => n - s) 0 ⟨Nat.zero_le _, fun j hj => by omega⟩ ⟨rfl, rfl, rfl, rfl, trivial⟩ (List.Sublist.refl _) ?_
  rintro i j hI
  show WC _ _ _ ([]) _ _ (over j [(0, .slice p n c), (1, .func (.func f) #[] es.toArray), (7, .int .i64 (n : Int)), (8, .int .i64 (i : Int))])
  replace hI : i ≤ n ∧ ∀ j, j < i → q (l j) = false := hI
  refine cseq ?_
  refine creg ?_
  refine l1 (lss rfl rfl) ?_
  refine lnil ?_
  refine nthen ?_
  refine cseq ?_
  refine cif rfl (fun h1 => ?_) (fun h1 => ?_)
  · have hlt : i < n := by (have := dt h1; omega)
    obtain ⟨b, o, hp, hbl, hm⟩ := hl.at hlt
    refine cskip ?_
    refine nthen ?_
    refine cseq ?_
    refine cblock ?_
    refine cseq ?_
    refine creg ?_
    refine l1 (mvi rfl) ?_
    refine l1 (asgi rfl) ?_
    refine lnil ?_
    refine nthen ?_
    refine cseq ?_
    refine creg ?_
    refine l1 (mvf rfl) ?_
    refine l1 (mvs rfl) ?_
    refine l1 (mvi rfl) ?_
    refine l1 (isp sl74 hp rfl rfl (by omega) (by omega)) ?_
    refine l1 (ldam (vs := encR (l i)) Try.isAgg79 Try.sizeOf79 rfl rfl (fun w' hw => (hm i hlt).kept hw.below hbl)) ?_
    refine l1 (clc hf rfl (mc rfl mn) (fun w' hw => hq i hlt w' _ hw)) ?_
    refine lnil ?_
    refine nthen ?_
    refine cif rfl (fun h2 => ?_) (fun h2 => ?_)
    · skip
      refine cseq ?_
      refine creg ?_
      refine l1 (mvi rfl) ?_
      refine l1 (asgi rfl) ?_
      refine lnil ?_
      refine nthen ?_
      refine cret ?_
      refine nblkR ?_
      refine nthenR ?_
      refine nIR ?_
      refine nblkR ?_
      refine nthenR ?_
      exact fin1i rfl rfl (by rw [idx_yes hlt h2 hI.2])
    · skip
      refine cskip ?_
      refine nblkN ?_
      refine nthen ?_
      refine creg ?_
      first | refine l1 (addn rfl rfl (ri (by omega) (by omega))) ?_ | refine l1 (add rfl rfl) ?_
      refine l1 (mvi rfl) ?_
      refine lnil ?_
      exact nI (i + 1) ⟨by omega, fun j hj => (Nat.lt_succ_iff_lt_or_eq.1 hj).elim (fun h => hI.2 j h) (fun h => by subst h; exact h2)⟩ (by show n - (i + 1) < n - i; omega) ⟨rfl, rfl, rfl, rfl, trivial⟩ (List.Sublist.refl _)
  · skip
    refine cexit ?_
    refine nthenE ?_
    refine nIE ?_
    refine nblkE ?_
    refine nthen ?_
    refine cseq ?_
    refine creg ?_
    refine l1 (asgi rfl) ?_
    refine lnil ?_
    refine nthen ?_
    refine cret ?_
    exact fin1i rfl rfl (by rw [idx_no (fun j hj => hI.2 j (by have := df h1; omega))])

theorem rowsL_all {q : Rw → Bool} {l : Nat → Rw} {n : Nat} (hno : ∀ j, j < n → q (l j) = false) : ((rowsL l n).filter (fun r => !q r)) = (rowsL l n) := List.filter_eq_self.2 fun r hr => by
  obtain ⟨j, hj, rfl⟩ := List.mem_map.1 hr
  rw [hno j (List.mem_range.1 hj)]; rfl
theorem rowsL_d {l : Nat → Rw} {n j : Nat} (hj : j < n) : (rowsL l n).getD j rz = l j := by
  rw [List.getD_eq_getElem?_getD, rowsL_get hj]; rfl

theorem delfn_calls (w0 w : World) (T oe : List Ent) (p : Option Addr) (n c : Nat) (l : Nat → Rw) (hn : n ≤ 100) (hs : Sat w0 (oe ++ T) w) (ho : OwnL 79 130 (.slice p n c) n ((rowsL l n).flatMap encR) oe) (f : FuncId) (es : List Value) (q : Rw → Bool) (hf : HasBody Try.prog f) (hq : ∀ i, i < n → ∀ w', Sat w0 T w' → Calls Try.prog f (.agg (encR (l i)).toArray :: es).toArray w' (Ret (.bool (q (l i))) w')) (hno : ∀ j, j < n → q (l j) = false) : Calls Try.prog 132 #[.slice p n c, .func (.func f) #[] es.toArray] w (RetS w0 (fun v' H' => ∃ oe', H' = oe' ++ T ∧ OwnL 79 130 v' ((rowsL l n).filter (fun r => !q r)).length (((rowsL l n).filter (fun r => !q r)).flatMap encR) oe')) := by
  refine fn_callsH (n := 42) (H := oe ++ T) hs Try.func132 rfl rfl (lb rfl) ?_
  refine cseq ?_
  refine creg ?_
  refine l1 (asgs rfl) ?_
  refine lnil ?_
  refine nthen ?_
  refine cseq ?_
  refine creg ?_
  refine l1 (mvs rfl) ?_
  refine l1 (mvf rfl) ?_
  refine l1 (cl (v := .int .i64 (-1)) hb148 rfl (mc rfl (mc rfl mn)) (fun w' hw => by (have hidx := idxf_calls w' p n c l hn (SlIn.sl (ho.slInL (fun a => rfl) (fun i hi => ⟨l i, rowsL_get hi, rfl⟩)) (hw.sub (List.sublist_append_left _ _))) f es q hf (fun i hi w'' H'' hw2 => hq i hi w'' ((hw.join hw2).sub ((List.sublist_append_right _ _).trans (List.sublist_append_left _ _)))); rw [idx_no hno] at hidx; exact hidx))) ?_
  refine l1 (asgi rfl) ?_
  refine lnil ?_
  refine nthen ?_
  refine cseq ?_
  refine cseq ?_
  refine creg ?_
  refine l1 (mvi rfl) ?_
  refine l1 (eql rfl rfl) ?_
  refine lnil ?_
  refine nthen ?_
  refine cift rfl ?_
  refine cseq ?_
  refine creg ?_
  refine l1 (mvs rfl) ?_
  refine l1 (asgs rfl) ?_
  refine lnil ?_
  refine nthen ?_
  refine cret ?_
  refine nthenR ?_
  exact finS (.slice p n c) (oe ++ T) (rv1 rfl (rvt rfl)) ⟨_, List.Perm.refl _, List.Sublist.refl _⟩ ⟨oe, rfl, by rw [rowsL_all hno, rowsL_len]; exact ho⟩

set_option maxHeartbeats 1000000 in
theorem delfp_calls (w0 w : World) (T : List Ent) (g n cap : Nat) (R : List Value) (l : Nat → Rw) (hn : n ≤ 100) (hs : Sat w0 (⟨g, (rowsL l n).flatMap encR ++ R, 79⟩ :: T) w) (hcap : n ≤ cap) (hcm : cap ≤ maxLen) (hR : n * 130 + R.length = cap * 130) (f : FuncId) (es : List Value) (q : Rw → Bool) (hf : HasBody Try.prog f) (hq : ∀ i, i < n → ∀ w', Sat w0 T w' → Calls Try.prog f (.agg (encR (l i)).toArray :: es).toArray w' (Ret (.bool (q (l i))) w')) (k0 : Nat) (hk0 : k0 < n) (hx0 : idxR q l n = (k0 : Int)) (hq0 : q (l k0) = true) (hb0 : ∀ j, j < k0 → q (l j) = false) : Calls Try.prog 132 #[.slice (some ⟨g, 0, none⟩) n cap, .func (.func f) #[] es.toArray] w (RetS w0 (fun v' H' => ∃ oe', H' = oe' ++ T ∧ OwnL 79 130 v' ((rowsL l n).filter (fun r => !q r)).length (((rowsL l n).filter (fun r => !q r)).flatMap encR) oe')) := by
  refine fn_callsH (n := 42) (H := ⟨g, (rowsL l n).flatMap encR ++ R, 79⟩ :: T) hs Try.func132 rfl rfl (lb rfl) ?_
  have ho : OwnL 79 130 (.slice (some ⟨g, 0, none⟩) n cap) n ((rowsL l n).flatMap encR) [⟨g, (rowsL l n).flatMap encR ++ R, 79⟩] := ⟨by rw [flatM_len encR_len, rowsL_len], .inr ⟨g, cap, _, rfl, rfl, hcap, hcm, by rw [rows_len, rowsL_len]; exact hR, by rw [flat_take encR_len _ _ (by rw [rowsL_len]; exact Nat.le_refl _), List.take_of_length_le (by rw [rowsL_len]; exact Nat.le_refl _)]⟩⟩
  have hI0 : DelInv (fun r => !q r) (rowsL l n) (k0 + 1) k0 (rowsL l n) := DelInv.start (by rw [rowsL_len]; exact hk0) (fun k hk r hr => by rw [rowsL_get (by omega)] at hr; cases hr; rw [hb0 k hk]; rfl) (by rw [rowsL_d hk0, hq0]; rfl)
  refine cseq ?_
  refine creg ?_
  refine l1 (asgs rfl) ?_
  refine lnil ?_
  refine nthen ?_
  refine cseq ?_
  refine creg ?_
  refine l1 (mvs rfl) ?_
  refine l1 (mvf rfl) ?_
  refine l1 (cl (v := .int .i64 (k0 : Int)) hb148 rfl (mc rfl (mc rfl mn)) (fun w' hw => by (have hidx := idxf_calls w' (some ⟨g, 0, none⟩) n cap l hn (SlIn.sl (ho.slInL (fun a => rfl) (fun i hi => ⟨l i, rowsL_get hi, rfl⟩)) (hw.sub (List.Sublist.cons_cons _ (List.nil_sublist _)))) f es q hf (fun i hi w'' H'' hw2 => hq i hi w'' ((hw.join hw2).sub ((List.Sublist.cons _ (List.Sublist.refl _)).trans (List.sublist_append_left _ _)))); rw [hx0] at hidx; exact hidx))) ?_
  refine l1 (asgi rfl) ?_
  refine lnil ?_
  refine nthen ?_
  refine cseq ?_
  refine cseq ?_
  refine creg ?_
  refine l1 (mvi rfl) ?_
  refine l1 (eql rfl rfl) ?_
  refine lnil ?_
  refine nthen ?_
  refine ciff (bf rfl (decide_eq_false (by omega))) ?_
  refine cskip ?_
  refine nthen ?_
  refine cseq ?_
  refine cseq ?_
  refine creg ?_
  refine l1 (mvi rfl) ?_
  first | refine l1 (addn rfl rfl (ri (by omega) (by omega))) ?_ | refine l1 (add rfl rfl) ?_
  refine l1 (asgi rfl) ?_
  refine lnil ?_
  refine nthen ?_
  refine cblock ?_
  refine cloopI (σ := Nat × Nat × List Rw) (fun s => [(0, .slice (some ⟨g, 0, none⟩) n cap), (1, .func (.func f) #[] es.toArray), (5, .int .i64 (s.2.1 : Int)), (6, .int .i64 (s.1 : Int))]) (fun s => ([⟨g, s.2.2.flatMap encR ++ R, 79⟩] ++ (T))) (fun s => DelInv (fun r => !q r) (rowsL l n) s.1 s.2.1 s.2.2) (fun s => n - s.1) (k0 + 1, k0, (rowsL l n)) hI0 ⟨rfl, rfl, rfl, rfl, trivial⟩ (List.Sublist.refl _) ?_
  rintro ⟨k, i, P⟩ j hI
  show WC _ _ _ (⟨g, P.flatMap encR ++ R, 79⟩ :: (T)) _ _ (over j [(0, .slice (some ⟨g, 0, none⟩) n cap), (1, .func (.func f) #[] es.toArray), (5, .int .i64 (i : Int)), (6, .int .i64 (k : Int))])
  replace hI : DelInv (fun r => !q r) (rowsL l n) k i P := hI; have hLn : (rowsL l n).length = n := rowsL_len l n; have hP : P.length = n := (by rw [hI.len, hLn]); have hij := hI.ij; have hjn : k ≤ n := (by have := hI.jn; omega)
  refine cseq ?_
  refine cseq ?_
  refine creg ?_
  refine l1 (mvi rfl) ?_
  refine l1 (mvs rfl) ?_
  refine l1 (lens sl74 rfl rfl) ?_
  refine l1 (lss rfl rfl) ?_
  refine lnil ?_
  refine nthen ?_
  refine cif rfl (fun h1 => ?_) (fun h1 => ?_)
  · have hlt : k < n := by (have := dt h1; omega)
    refine cskip ?_
    refine nthen ?_
    refine cseq ?_
    refine cblock ?_
    refine cseq ?_
    refine creg ?_
    refine l1 (mvs rfl) ?_
    refine l1 (mvi rfl) ?_
    refine l1 (isp sl74 rfl rfl rfl (by omega) (by omega)) ?_
    refine l1 (lda 0 Try.isAgg79 Try.sizeOf79 rfl rfl (rows_read (j := k) (x := l k) (by omega) (by rw [hI.get (by omega), rowsL_d hlt])) rfl) ?_
    refine lal (zs := encR rz) Try.zeroValue79 rfl (fun b1 => ?_)
    refine wl_perm (ins_perm 1 _ _) ?_
    refine lstw 1 rfl rfl rfl Try.sizeOf79 rfl rfl rfl ?_
    refine lnil ?_
    refine nthen ?_
    refine cseq ?_
    refine creg ?_
    refine l1 (mvf rfl) ?_
    refine l1 (ldw 1 Try.isAgg79 Try.sizeOf79 rfl rfl rfl) ?_
    refine l1 (clc hf rfl (mc rfl mn) (fun w' hw => hq k hlt w' (hw.sub (List.Sublist.cons _ (List.Sublist.cons _ (List.Sublist.refl _)))))) ?_
    refine l1 (nt rfl) ?_
    refine lnil ?_
    refine nthen ?_
    refine cif rfl (fun h2 => ?_) (fun h2 => ?_)
    · skip
      refine cseq ?_
      refine creg ?_
      refine l1 (mvs rfl) ?_
      refine l1 (mvi rfl) ?_
      refine l1 (ldw 1 Try.isAgg79 Try.sizeOf79 rfl rfl rfl) ?_
      refine l1 (isp sl74 rfl rfl rfl (by omega) (by omega)) ?_
      refine lst 0 rfl rfl rfl rfl Try.sizeOf79 rfl (by rw [rows_len, encR_len]; omega) (encR_one (l k)) (rows_write (by omega)) ?_
      refine lnil ?_
      refine nthen ?_
      refine creg ?_
      refine l1 (mvi rfl) ?_
      first | refine l1 (addn rfl rfl (ri (by omega) (by omega))) ?_ | refine l1 (add rfl rfl) ?_
      refine l1 (asgi rfl) ?_
      refine lnil ?_
      refine nblkN ?_
      refine nthen ?_
      refine creg ?_
      refine l1 (mvi rfl) ?_
      first | refine l1 (addn rfl rfl (ri (by omega) (by omega))) ?_ | refine l1 (add rfl rfl) ?_
      refine l1 (asgi rfl) ?_
      refine lnil ?_
      first | exact nI (k + 1, i + 1, P.set i (l k)) (by have := hI.keep (by omega) (by rw [rowsL_d hlt]; exact h2); rwa [rowsL_d hlt] at this) (by show n - (k + 1) < n - k; omega) ⟨rfl, rfl, rfl, rfl, trivial⟩ (List.Sublist.cons_cons _ (List.Sublist.cons _ (List.Sublist.refl _))) | exact nI (k + 1, i, P) (hI.skip (by omega) (by rw [rowsL_d hlt]; exact h2)) (by show n - (k + 1) < n - k; omega) ⟨rfl, rfl, rfl, rfl, trivial⟩ (List.Sublist.cons_cons _ (List.Sublist.cons _ (List.Sublist.refl _)))
    · skip
      refine cskip ?_
      refine nblkN ?_
      refine nthen ?_
      refine creg ?_
      refine l1 (mvi rfl) ?_
      first | refine l1 (addn rfl rfl (ri (by omega) (by omega))) ?_ | refine l1 (add rfl rfl) ?_
      refine l1 (asgi rfl) ?_
      refine lnil ?_
      first | exact nI (k + 1, i + 1, P.set i (l k)) (by have := hI.keep (by omega) (by rw [rowsL_d hlt]; exact h2); rwa [rowsL_d hlt] at this) (by show n - (k + 1) < n - k; omega) ⟨rfl, rfl, rfl, rfl, trivial⟩ (List.Sublist.cons_cons _ (List.Sublist.cons _ (List.Sublist.refl _))) | exact nI (k + 1, i, P) (hI.skip (by omega) (by rw [rowsL_d hlt]; exact h2)) (by show n - (k + 1) < n - k; omega) ⟨rfl, rfl, rfl, rfl, trivial⟩ (List.Sublist.cons_cons _ (List.Sublist.cons _ (List.Sublist.refl _)))
  · have hje : k = n := by (have := df h1; omega)
    refine cexit ?_
    refine nthenE ?_
    refine nIE ?_
    refine nblkE ?_
    refine nthen ?_
    refine cseq ?_
    refine creg ?_
    refine l1 (mvs rfl) ?_
    refine l1 (mvi rfl) ?_
    refine l1 (sllo Try.underlying74 Try.sizeOf79 rfl rfl (by omega) (by omega)) ?_
    refine lclear 0 el74 rfl rfl (by omega) (zrows_is (n - i)) (zrows_len (n - i)) (zrows_one (n - i)) (by rw [zrows_len, rows_len]; omega) rfl ?_
    refine lnil ?_
    refine nthen ?_
    refine cseq ?_
    refine creg ?_
    refine l1 (mvs rfl) ?_
    refine l1 (mvi rfl) ?_
    refine l1 (slhi Try.underlying74 Try.sizeOf79 rfl rfl (by omega) (.inr ⟨g, 0, rfl⟩)) ?_
    refine l1 (asgs rfl) ?_
    refine lnil ?_
    refine nthen ?_
    refine cret ?_
    exact finS (.slice (some ⟨g, 0, none⟩) i cap) _ (rv1 rfl (rvt rfl)) ⟨_, List.Perm.refl _, List.Sublist.refl _⟩ ⟨_, rfl, by (have hd := hI.done' (by omega); rw [← hd.2, ← hd.1]; exact rows_cleared hP (by omega) hcap hcm hR)⟩

theorem delf_calls (w0 w : World) (T oe : List Ent) (v : Value) (n : Nat) (l : Nat → Rw) (hn : n ≤ 100) (hs : Sat w0 (oe ++ T) w) (ho : OwnL 79 130 v n ((rowsL l n).flatMap encR) oe) (f : FuncId) (es : List Value) (q : Rw → Bool) (hf : HasBody Try.prog f) (hq : ∀ i, i < n → ∀ w', Sat w0 T w' → Calls Try.prog f (.agg (encR (l i)).toArray :: es).toArray w' (Ret (.bool (q (l i))) w')) : Calls Try.prog 132 #[v, .func (.func f) #[] es.toArray] w (RetS w0 (fun v' H' => ∃ oe', H' = oe' ++ T ∧ OwnL 79 130 v' ((rowsL l n).filter (fun r => !q r)).length (((rowsL l n).filter (fun r => !q r)).flatMap encR) oe')) := by
  obtain ⟨p, c, rfl⟩ := ho.form
  rcases idx_case q l n with ⟨_, hno⟩ | ⟨k0, hx0, hk0, hq0, hb0⟩
  · exact delfn_calls w0 w T oe p n c l hn hs ho f es q hf hq hno
  · rcases ho.2 with ⟨_, h0, _⟩ | ⟨g, cap, cur, h1, rfl, hcap, hcm, hcl, hct⟩
    · omega
    · cases h1
      have hcur : cur = (rowsL l n).flatMap encR ++ cur.drop (n * 130) := by rw [← hct, List.take_append_drop]
      rw [hcur] at hs
      exact delfp_calls w0 w T g n c (cur.drop (n * 130)) l hn hs hcap hcm (by have : n * 130 ≤ c * 130 := Nat.mul_le_mul_right _ hcap; rw [List.length_drop, hcl]; omega) f es q hf hq k0 hk0 hx0 hq0 hb0

theorem cmpR_calls (a b : Rw) (w : World) : Calls Try.prog 136 #[.agg (encR a).toArray, .agg (encR b).toArray] w (Ret (.int .i64 (cmpH a.hd b.hd)) w) := by
  refine fn_calls (n := 10) Try.func136 rfl rfl (lb rfl) ?_
  refine cseq ?_
  refine creg ?_
  refine lbxa rfl (fun b1 => ?_)
  refine lbxa rfl (fun b2 => ?_)
  refine l1 (asgi rfl) ?_
  refine lnil ?_
  refine nthen ?_
  refine cseq ?_
  refine creg ?_
  refine l1 (fa fa79_0 rfl) ?_
  refine l1 (lda 0 Try.isAgg37 Try.sizeOf37 rfl rfl (encR_hd _) rfl) ?_
  refine l1 (fa fa79_0 rfl) ?_
  refine l1 (lda 1 Try.isAgg37 Try.sizeOf37 rfl rfl (encR_hd _) rfl) ?_
  refine l1 (cl hb69 rfl (mc rfl (mc rfl mn)) (fun w hw => compare_calls _ _ w)) ?_
  refine l1 (asgi rfl) ?_
  refine lnil ?_
  refine nthen ?_
  refine cret ?_
  exact fin1 rfl rfl

set_option maxHeartbeats 1000000 in
theorem maxf_calls (w : World) (p : Option Addr) (c : Nat) (L : List Rw) (hn : (L.length : Int) ≤ 9223372036854775807) (h0 : 0 < L.length) (hl : Sl w p L.length 130 (fun i => encR (L.getD i rz))) : Calls Try.prog 135 #[.slice p L.length c, .func (.func 136) #[] #[]] w (Ret (.agg (encR (maxT L (L.length - 1))).toArray) w) := by
  refine fn_calls (n := 33) Try.func135 rfl rfl (lb rfl) ?_
  obtain ⟨b, o, rfl, hbl, hm⟩ := hl.at h0
  refine cseq ?_
  refine creg ?_
  refine lal (zs := encR rz) Try.zeroValue79 rfl (fun b1 => ?_)
  refine lnil ?_
  refine nthen ?_
  refine cseq ?_
  refine cseq ?_
  refine creg ?_
  refine l1 (mvs rfl) ?_
  refine l1 (lens sl74 rfl rfl) ?_
  refine l1 (lss rfl rfl) ?_
  refine lnil ?_
  refine nthen ?_
  refine ciff (bf rfl (decide_eq_false (by omega))) ?_
  refine cskip ?_
  refine nthen ?_
  refine cseq ?_
  refine creg ?_
  refine l1 (mvs rfl) ?_
  refine l1 (isp sl74 rfl rfl rfl (by omega) (by omega)) ?_
  refine l1 (ldam (vs := encR (L.getD (0) rz)) Try.isAgg79 Try.sizeOf79 rfl rfl (fun w' hw => by rw [show ((0 : Int)).toNat = (0) from by omega]; exact (hm (0) (by omega)).kept hw.below hbl)) ?_
  refine lal (zs := encR rz) Try.zeroValue79 rfl (fun b2 => ?_)
  refine lstw (cs := encR (maxT L 0)) 1 rfl rfl rfl Try.sizeOf79 rfl rfl rfl ?_
  refine lnil ?_
  refine nthen ?_
  refine cseq ?_
  refine cseq ?_
  refine creg ?_
  refine l1 (asgi rfl) ?_
  refine lnil ?_
  refine nthen ?_
  refine cblock ?_
  refine cloopI (σ := Nat) (fun s => [(0, .slice (some ⟨b, o, none⟩) L.length c), (1, .func (.func 136) #[] #[]), (4, .pointer (some ⟨b1, 0, none⟩)), (5, .pointer (some ⟨b2, 0, none⟩)), (6, .int .i64 ((s : Int) + 1))]) (fun s => [⟨b1, encR rz, 79⟩, ⟨b2, encR (maxT L s), 79⟩]) (fun s => s < L.length) (fun s => L.length - s) 0 (by omega) ⟨rfl, rfl, rfl, rfl, rfl, trivial⟩ (List.Sublist.refl _) ?_
  rintro i j hi
  show WC _ _ _ ([⟨b1, encR rz, 79⟩, ⟨b2, encR (maxT L i), 79⟩]) _ _ (over j [(0, .slice (some ⟨b, o, none⟩) L.length c), (1, .func (.func 136) #[] #[]), (4, .pointer (some ⟨b1, 0, none⟩)), (5, .pointer (some ⟨b2, 0, none⟩)), (6, .int .i64 ((i : Int) + 1))])
  replace hi : i < L.length := hi
  refine cseq ?_
  refine cseq ?_
  refine creg ?_
  refine l1 (mvi rfl) ?_
  refine l1 (mvs rfl) ?_
  refine l1 (lens sl74 rfl rfl) ?_
  refine l1 (lss rfl rfl) ?_
  refine lnil ?_
  refine nthen ?_
  refine cif rfl (fun h1 => ?_) (fun h1 => ?_)
  · have hlt : i + 1 < L.length := by (have := dt h1; omega)
    refine cskip ?_
    refine nthen ?_
    refine cseq ?_
    refine cblock ?_
    refine cseq ?_
    refine cregq mo (by kernel_rfl) ?_
    refine q1 (mvf rfl) ?_
    refine q1 (mvs rfl) ?_
    refine q1 (mvi rfl) ?_
    refine q1 (isp sl74 rfl rfl rfl (by omega) (by omega)) ?_
    refine q1 (ldam (vs := encR (L.getD (i + 1) rz)) Try.isAgg79 Try.sizeOf79 rfl rfl (fun w' hw => by rw [show ((i : Int) + 1).toNat = (i + 1) from by omega]; exact (hm (i + 1) (by omega)).kept hw.below hbl)) ?_
    refine q1 (ldw 1 Try.isAgg79 Try.sizeOf79 rfl rfl rfl) ?_
    refine q1 (cl hb136 rfl (mc rfl (mc rfl mn)) (fun w hw => cmpR_calls _ _ w)) ?_
    refine q1 (gtr rfl rfl) ?_
    refine qnil ?_
    refine nthen ?_
    refine cif rfl (fun h2 => ?_) (fun h2 => ?_)
    · skip
      refine creg ?_
      refine l1 (mvs rfl) ?_
      refine l1 (mvi rfl) ?_
      refine l1 (isp sl74 rfl rfl rfl (by omega) (by omega)) ?_
      refine l1 (ldam (vs := encR (L.getD (i + 1) rz)) Try.isAgg79 Try.sizeOf79 rfl rfl (fun w' hw => by rw [show ((i : Int) + 1).toNat = (i + 1) from by omega]; exact (hm (i + 1) (by omega)).kept hw.below hbl)) ?_
      refine lstw 1 rfl rfl rfl Try.sizeOf79 rfl rfl rfl ?_
      refine lnil ?_
      refine nblkN ?_
      refine nthen ?_
      refine creg ?_
      refine l1 (mvi rfl) ?_
      first | refine l1 (addn rfl rfl (ri (by omega) (by omega))) ?_ | refine l1 (add rfl rfl) ?_
      refine l1 (asgi rfl) ?_
      refine lnil ?_
      first | exact nI (i + 1) (by show i + 1 < L.length; omega) (by show L.length - (i + 1) < L.length - i; omega) ⟨rfl, rfl, rfl, rfl, rfl, trivial⟩ (by rw [maxT_t hlt h2]; exact List.Sublist.refl _) | exact nI (i + 1) (by show i + 1 < L.length; omega) (by show L.length - (i + 1) < L.length - i; omega) ⟨rfl, rfl, rfl, rfl, rfl, trivial⟩ (by rw [maxT_f hlt h2]; exact List.Sublist.refl _)
    · skip
      refine cskip ?_
      refine nblkN ?_
      refine nthen ?_
      refine creg ?_
      refine l1 (mvi rfl) ?_
      first | refine l1 (addn rfl rfl (ri (by omega) (by omega))) ?_ | refine l1 (add rfl rfl) ?_
      refine l1 (asgi rfl) ?_
      refine lnil ?_
      first | exact nI (i + 1) (by show i + 1 < L.length; omega) (by show L.length - (i + 1) < L.length - i; omega) ⟨rfl, rfl, rfl, rfl, rfl, trivial⟩ (by rw [maxT_t hlt h2]; exact List.Sublist.refl _) | exact nI (i + 1) (by show i + 1 < L.length; omega) (by show L.length - (i + 1) < L.length - i; omega) ⟨rfl, rfl, rfl, rfl, rfl, trivial⟩ (by rw [maxT_f hlt h2]; exact List.Sublist.refl _)
  · have hall : i = L.length - 1 := by (have := df h1; omega)
    subst hall
    refine cexit ?_
    refine nthenE ?_
    refine nIE ?_
    refine nblkE ?_
    refine nthen ?_
    refine cseq ?_
    refine creg ?_
    refine l1 (ldw 1 Try.isAgg79 Try.sizeOf79 rfl rfl rfl) ?_
    refine lstw 0 rfl rfl rfl Try.sizeOf79 rfl rfl rfl ?_
    refine lnil ?_
    refine nthen ?_
    refine cret ?_
    exact finc 0 rfl Try.isAgg79 Try.sizeOf79 rfl rfl rfl rfl

theorem lat_none {q : Rw → Bool} {L : List Rw} (h : decide (((L.filter q).length : Int) = 0) = true) : latR q L = (rz, false) := by unfold latR; rw [h]; rfl
theorem lat_some {q : Rw → Bool} {L : List Rw} (h : decide (((L.filter q).length : Int) = 0) = false) : latR q L = (maxT (L.filter q) ((L.filter q).length - 1), true) := by unfold latR; rw [h]; rfl

set_option maxHeartbeats 1000000 in
theorem latest_calls (w : World) (p : Option Addr) (n c : Nat) (l : Nat → Rw) (hn : n ≤ 100) (hl : Sl w p n 130 (fun i => encR (l i))) (k : FuncId) (q : Rw → Bool) (hk : HasBody Try.prog k) (hq : ∀ i, i < n → PredC w k [] q (l i)) : Calls Try.prog 114 #[.slice p n c, .func (.func k) #[] #[]] w (Ret (.tuple #[.agg (encR (latR q (rowsL l n)).1).toArray, .bool (latR q (rowsL l n)).2]) w) := by
  refine fn_calls (n := 16) Try.func114 rfl rfl (lb rfl) ?_
  refine cseq ?_
  refine creg ?_
  refine lbxf rfl (fun b1 => ?_)
  refine lal (zs := encR rz) Try.zeroValue79 rfl (fun b2 => ?_)
  refine l1 (asgb rfl) ?_
  refine lnil ?_
  refine nthen ?_
  refine cseq ?_
  refine creg ?_
  refine l1 (mvs rfl) ?_
  refine lclm hb133 rfl (mc rfl mn) (fun w' hw => clr_calls w' _ _ _ l hn (Sl.keptS hl hw)) ?_
  rintro v7 Hn ho
  replace ho : OwnL 79 130 v7 n ((rowsL l n).flatMap encR) Hn := by rw [rowsL_flat]; exact ho
  refine l1 (mkf1 rfl) ?_
  refine lcls (Hn ++ [⟨b1, [.func (.func k) #[] #[]], 81⟩, ⟨b2, encR rz, 79⟩]) hb132 rfl (mc rfl (mc rfl mn)) (fun w' hw => delf_calls w w' [⟨b1, [.func (.func k) #[] #[]], 81⟩, ⟨b2, encR rz, 79⟩] Hn v7 n l hn hw ho 134 [.pointer (some ⟨b1, 0, none⟩)] (fun r => !q r) hb134 (fun i hi w'' hw'' => nota_calls (l i) w'' k q b1 hk (fun w3 H h3 => hq i hi w3 _ (hw''.join h3)) (hw''.lt (e := ⟨b1, [.func (.func k) #[] #[]], 81⟩) (by simp)) (hw''.cell (i := 0) (e := ⟨b1, [.func (.func k) #[] #[]], 81⟩) rfl rfl))) ⟨_, List.perm_append_comm, List.Sublist.refl _⟩ ?_
  rintro v9 H9 ⟨oe, rfl, ho9⟩
  simp only [Bool.not_not] at ho9
  replace ho9 : OwnL 79 130 v9 ((rowsL l n).filter q).length (((rowsL l n).filter q).flatMap encR) oe := ho9
  obtain ⟨p9, c9, rfl⟩ := ho9.form
  refine wl_perm List.perm_append_comm ?_
  refine l1 (asgs rfl) ?_
  refine lnil ?_
  refine nthen ?_
  refine cseq ?_
  refine cseq ?_
  refine creg ?_
  refine l1 (mvs rfl) ?_
  refine l1 (lens sl74 rfl rfl) ?_
  refine l1 (eql rfl rfl) ?_
  refine lnil ?_
  refine nthen ?_
  refine cif rfl (fun h1 => ?_) (fun h1 => ?_)
  · rw [lat_none h1]
    refine cseq ?_
    refine creg ?_
    refine l1 (bld0 bk79z) ?_
    refine lstw 1 rfl rfl rfl Try.sizeOf79 rfl rfl rfl ?_
    refine l1 (asgb rfl) ?_
    refine lnil ?_
    refine nthen ?_
    refine cret ?_
    refine nthenR ?_
    exact fin (rv2 rfl (rvc 1 Try.isAgg79 Try.sizeOf79 rfl rfl rfl rfl) (rvt rfl))
  · rw [lat_some h1]
    have hle : ((rowsL l n).filter q).length ≤ n := (by have := List.length_filter_le q (rowsL l n); rwa [rowsL_len] at this)
    have hpos : 0 < ((rowsL l n).filter q).length := (by have := df h1; omega)
    refine cskip ?_
    refine nthen ?_
    refine cseq ?_
    refine creg ?_
    refine l1 (mvs rfl) ?_
    refine l1 (cl (v := .agg (encR (maxT ((rowsL l n).filter q) (((rowsL l n).filter q).length - 1))).toArray) hb135 rfl (mc rfl (mc rfl mn)) (fun w' hw => maxf_calls w' p9 c9 ((rowsL l n).filter q) (by omega) hpos (SlIn.sl (ho9.slInL (fun a => rfl) (fun i hi => ⟨_, List.getElem?_eq_getElem hi, by rw [List.getD_eq_getElem?_getD, List.getElem?_eq_getElem hi]; rfl⟩)) (hw.sub (List.Sublist.cons _ (List.Sublist.cons _ (List.Sublist.refl _))))))) ?_
    refine lstw 1 rfl rfl rfl Try.sizeOf79 rfl rfl rfl ?_
    refine l1 (asgb rfl) ?_
    refine lnil ?_
    refine nthen ?_
    refine cret ?_
    exact fin (rv2 rfl (rvc 1 Try.isAgg79 Try.sizeOf79 rfl rfl rfl rfl) (rvt rfl))
end Go.Proofs.Ytkdbjhlkahkobaa
/- walks, printed by a program of ours -/
namespace Go.Proofs.Ytkdbjhlkahkobaa
open Jal Go.RowKit
set_option maxRecDepth 100000
set_option maxHeartbeats 2000000 in
theorem made_item_calls (w : World) (tok : Nat → Int) (p : Option Addr) (n c : Nat) (l : Nat → Rw) (hn : n ≤ 100) (hl : Sl w p n 130 (fun i => encR (l i))) (hx : ∀ i, i < n → RwIn w (l i)) (kx : ∀ i, i < n → (l i).hd.tn ≤ 20 ∧ (l i).ch.gn ≤ 20) : Calls Try.prog 87 #[.agg (arr .u8 16 tok).toArray, .slice p n c] w (RetM (fun v Hn => ∃ I : It, v = .agg (encI I).toArray ∧ coreI I = coreI (madeI tok (rowsL l n)) ∧ ItIn Hn I) w) := by
  refine fn_calls (n := 60) Try.func87 rfl rfl (lb rfl) ?_
  obtain ⟨A, hA⟩ : ∃ A, A = latR anyR (rowsL l n) := ⟨_, rfl⟩
  obtain ⟨K, hK⟩ : ∃ K, K = latR knownR (rowsL l n) := ⟨_, rfl⟩
  obtain ⟨V, hV⟩ : ∃ V, V = latR valuedR (rowsL l n) := ⟨_, rfl⟩
  have hAx : RwIn w A.1 := by rw [hA]; exact lat_all ⟨⟨.inl rfl⟩, ⟨.inl rfl⟩⟩ hx
  have hKx : RwIn w K.1 := by rw [hK]; exact lat_all ⟨⟨.inl rfl⟩, ⟨.inl rfl⟩⟩ hx
  have hA20 : A.1.hd.tn ≤ 20 := by rw [hA]; exact lat_all (Pr := fun r => r.hd.tn ≤ 20) (by decide) (fun i hi => (kx i hi).1)
  have hK20 : K.1.ch.gn ≤ 20 := by rw [hK]; exact lat_all (Pr := fun r => r.ch.gn ≤ 20) (by decide) (fun i hi => (kx i hi).2)
  refine cseq ?_
  refine creg ?_
  refine lbxa rfl (fun b1 => ?_)
  refine lal (zs := encI iz) Try.zeroValue83 rfl (fun b2 => ?_)
  refine lnil ?_
  refine nthen ?_
  refine cseq ?_
  refine creg ?_
  refine l1 (mvs rfl) ?_
  refine l1 (cl (v := .tuple #[.agg (encR A.1).toArray, .bool A.2]) hb114 rfl (mc rfl (mc rfl mn)) (fun w' hw => by rw [hA]; exact latest_calls w' p n c l hn (Sl.keptS hl hw) 115 anyR hb115 (fun i hi w2 H h2 => any_calls (l i) w2))) ?_
  refine l1 (mv rfl) ?_
  refine l1 (ext (vs := [.agg (encR A.1).toArray, .bool A.2]) rfl rfl) ?_
  refine l1 (ext (vs := [.agg (encR A.1).toArray, .bool A.2]) rfl rfl) ?_
  refine lal (zs := encR rz) Try.zeroValue79 rfl (fun b3 => ?_)
  refine lstw 2 rfl rfl rfl Try.sizeOf79 rfl rfl rfl ?_
  refine l1 (asgb rfl) ?_
  refine lnil ?_
  refine nthen ?_
  refine cseq ?_
  refine creg ?_
  refine l1 (mvs rfl) ?_
  refine l1 (cl (v := .tuple #[.agg (encR K.1).toArray, .bool K.2]) hb114 rfl (mc rfl (mc rfl mn)) (fun w' hw => by rw [hK]; exact latest_calls w' p n c l hn (Sl.keptS hl hw) 116 knownR hb116 (fun i hi w2 H h2 => known_calls (l i) w2))) ?_
  refine l1 (mv rfl) ?_
  refine l1 (ext (vs := [.agg (encR K.1).toArray, .bool K.2]) rfl rfl) ?_
  refine l1 (ext (vs := [.agg (encR K.1).toArray, .bool K.2]) rfl rfl) ?_
  refine lal (zs := encR rz) Try.zeroValue79 rfl (fun b4 => ?_)
  refine lstw 3 rfl rfl rfl Try.sizeOf79 rfl rfl rfl ?_
  refine l1 (asgb rfl) ?_
  refine lnil ?_
  refine nthen ?_
  refine cseq ?_
  refine creg ?_
  refine l1 (mvs rfl) ?_
  refine l1 (cl (v := .tuple #[.agg (encR V.1).toArray, .bool V.2]) hb114 rfl (mc rfl (mc rfl mn)) (fun w' hw => by rw [hV]; exact latest_calls w' p n c l hn (Sl.keptS hl hw) 117 valuedR hb117 (fun i hi w2 H h2 => valued_calls (l i) w2))) ?_
  refine l1 (mv rfl) ?_
  refine l1 (ext (vs := [.agg (encR V.1).toArray, .bool V.2]) rfl rfl) ?_
  refine l1 (ext (vs := [.agg (encR V.1).toArray, .bool V.2]) rfl rfl) ?_
  refine lal (zs := encR rz) Try.zeroValue79 rfl (fun b5 => ?_)
  refine lstw 4 rfl rfl rfl Try.sizeOf79 rfl rfl rfl ?_
  refine l1 (asgb rfl) ?_
  refine lnil ?_
  refine nthen ?_
  refine cseq ?_
  refine creg ?_
  refine l1 (ldw 0 Try.isAgg34 Try.sizeOf34 rfl rfl rfl) ?_
  refine l1 (fa fa79_0 rfl) ?_
  refine l1 (lda 2 Try.isAgg37 Try.sizeOf37 rfl rfl (encR_hd _) rfl) ?_
  refine l1 (fa fa79_1 rfl) ?_
  refine l1 (ldc 2 Try.isAgg4 rfl rfl rfl) ?_
  refine l1 (fa fa79_2 rfl) ?_
  refine l1 (fa fa77_1 rfl) ?_
  refine l1 (ldc 3 Try.isAgg9 rfl rfl rfl) ?_
  refine l1 (bldk (zs := encI ⟨tok, A.1.hd, A.1.known, false, K.1.ch.name, none, 0, 0, fun _ => ByteArray.empty, ByteArray.empty⟩) rfl (bk83 _ _ _ _)) ?_
  refine lal (zs := encI iz) Try.zeroValue83 rfl (fun b6 => ?_)
  refine lstw 5 rfl rfl rfl Try.sizeOf83 rfl rfl rfl ?_
  refine lnil ?_
  refine nthen ?_
  refine cseq ?_
  refine creg ?_
  refine l1 (fa fa83_1 rfl) ?_
  refine l1 (fa fa37_7 rfl) ?_
  refine l1 (ldc 5 Try.isAgg35 rfl rfl rfl) ?_
  refine lclm hb82 rfl (mc rfl mn) (fun w' hw => clone_calls w' _ _ _ _ hA20 (Sl.keptS hAx.h hw)) ?_
  rintro v39 Hn ⟨p', c', rfl, htk⟩
  refine l1 (fa fa83_1 rfl) ?_
  refine l1 (fa fa37_7 rfl) ?_
  refine lsts 5 rfl rfl rfl Try.sizeOf35 (lb rfl) (encI_setTok _ p' c') ?_
  refine lnil ?_
  refine nthen ?_
  refine cseq ?_
  refine cseq ?_
  refine creg ?_
  refine l1 (mvb rfl) ?_
  refine l1 (mvb rfl) ?_
  refine l1g rfl (gwt rfl) (fun h => fa fa79_2 rfl) ?_
  refine l1g rfl (gwt rfl) (fun h => fa fa77_0 (gvt h)) ?_
  refine l1g rfl (gwt rfl) (fun h => ldc 4 Try.isAgg3 rfl (gvt h) rfl) ?_
  refine l1g rfl (gwt rfl) (fun h => eql (gvt h) rfl) ?_
  refine l1 (pk_and rfl rfl rfl) ?_
  refine lnil ?_
  refine nthen ?_
  refine cif rfl (fun h1 => ?_) (fun h1 => ?_)
  · skip
    refine cregH (fun x : List Value => ⟨b1, arr .u8 16 tok, 34⟩ :: ⟨b2, encI iz, 83⟩ :: ⟨b3, encR A.1, 79⟩ :: ⟨b4, encR K.1, 79⟩ :: ⟨b5, encR V.1, 79⟩ :: ⟨b6, x, 83⟩ :: []) 13 mo rfl ?_
    refine hq1 0 rfl (by kernel_rfl) (by kernel_rfl) (by kernel_rfl) (fun c a w h => h) (.inl ⟨_, rfl⟩) (fun w hw => ⟨_, hw.sub (List.Sublist.cons_cons _ (List.Sublist.cons_cons _ (List.Sublist.cons_cons _ (List.Sublist.cons_cons _ (List.Sublist.cons_cons _ (List.Sublist.cons_cons _ (List.nil_sublist _)))))))⟩) (fun T => fa fa79_2 rfl) ?_
    refine hq1 1 rfl (by kernel_rfl) (by kernel_rfl) (by kernel_rfl) (fun c a w h => h) (.inl ⟨_, rfl⟩) (fun w hw => ⟨_, hw.sub (List.Sublist.cons_cons _ (List.Sublist.cons_cons _ (List.Sublist.cons_cons _ (List.Sublist.cons_cons _ (List.Sublist.cons_cons _ (List.Sublist.cons_cons _ (List.nil_sublist _)))))))⟩) (fun T => fa fa77_3 rfl) ?_
    refine hq1 2 rfl (by kernel_rfl) (by kernel_rfl) (by kernel_rfl) (fun c a w h => h) (.inl ⟨_, rfl⟩) (fun w hw => ⟨_, hw.sub (List.Sublist.cons_cons _ (List.Sublist.cons_cons _ (List.Sublist.cons_cons _ (List.Sublist.cons_cons _ (List.Sublist.cons_cons _ (List.Sublist.cons_cons _ (List.nil_sublist _)))))))⟩) (fun T => ldc 4 Try.isAgg9 rfl rfl rfl) ?_
    refine hq1 3 rfl (by kernel_rfl) (by kernel_rfl) (by kernel_rfl) (fun c a w h => h) (.inl ⟨_, rfl⟩) (fun w hw => ⟨_, hw.sub (List.Sublist.cons_cons _ (List.Sublist.cons_cons _ (List.Sublist.cons_cons _ (List.Sublist.cons_cons _ (List.Sublist.cons_cons _ (List.Sublist.cons_cons _ (List.nil_sublist _)))))))⟩) (fun T => fa fa79_2 rfl) ?_
    refine hq1 4 rfl (by kernel_rfl) (by kernel_rfl) (by kernel_rfl) (fun c a w h => h) (.inl ⟨_, rfl⟩) (fun w hw => ⟨_, hw.sub (List.Sublist.cons_cons _ (List.Sublist.cons_cons _ (List.Sublist.cons_cons _ (List.Sublist.cons_cons _ (List.Sublist.cons_cons _ (List.Sublist.cons_cons _ (List.nil_sublist _)))))))⟩) (fun T => fa fa77_2 rfl) ?_
    refine hq1 5 rfl (by kernel_rfl) (by kernel_rfl) (by kernel_rfl) (fun c a w h => h) (.inl ⟨_, rfl⟩) (fun w hw => ⟨_, hw.sub (List.Sublist.cons_cons _ (List.Sublist.cons_cons _ (List.Sublist.cons_cons _ (List.Sublist.cons_cons _ (List.Sublist.cons_cons _ (List.Sublist.cons_cons _ (List.nil_sublist _)))))))⟩) (fun T => ldc 3 Try.isAgg75 rfl rfl rfl) ?_
    refine hq1 7 rfl (by kernel_rfl) (by kernel_rfl) (by kernel_rfl) (fun c a w h => h) (.inl ⟨_, rfl⟩) (fun w hw => ⟨_, hw.sub (List.Sublist.cons_cons _ (List.Sublist.cons_cons _ (List.Sublist.cons_cons _ (List.Sublist.cons_cons _ (List.Sublist.cons_cons _ (List.Sublist.cons_cons _ (List.nil_sublist _)))))))⟩) (fun T => fa fa83_3 rfl) ?_
    refine he 6 (by kernel_rfl) rfl ?_
    refine lclm hb118 rfl (mc rfl mn) (fun w' hw => cls_calls w' _ _ _ K.1.ch.tag (by omega) (Sl.keptS hKx.c hw)) ?_
    rintro v55 Hg hog
    obtain ⟨pg, cg, rfl⟩ := hog.form
    refine wl_tail 6 ?_
    refine hnil (fun w hw => ⟨_, hw.sub (List.Sublist.cons_cons _ (List.Sublist.cons_cons _ (List.Sublist.cons_cons _ (List.Sublist.cons_cons _ (List.Sublist.cons_cons _ (List.Sublist.cons_cons _ (List.nil_sublist _)))))))⟩) ?_
    refine he 8 (by kernel_rfl) rfl ?_
    refine lstb 5 rfl rfl rfl Try.sizeOf4 (lb rfl) (encI_setAlive _ true) ?_
    refine hnil (fun w hw => ⟨_, hw.sub (List.Sublist.cons_cons _ (List.Sublist.cons_cons _ (List.Sublist.cons_cons _ (List.Sublist.cons_cons _ (List.Sublist.cons_cons _ (List.Sublist.cons_cons _ (List.nil_sublist _)))))))⟩) ?_
    refine hq1 9 rfl (by kernel_rfl) (by kernel_rfl) (by kernel_rfl) (fun c a w h => h) (.inl ⟨_, rfl⟩) (fun w hw => ⟨_, hw.sub (List.Sublist.cons_cons _ (List.Sublist.cons_cons _ (List.Sublist.cons_cons _ (List.Sublist.cons_cons _ (List.Sublist.cons_cons _ (List.Sublist.cons_cons _ (List.nil_sublist _)))))))⟩) (fun T => fa fa83_6 rfl) ?_
    refine he 10 (by kernel_rfl) rfl ?_
    refine lstt 5 rfl rfl rfl Try.sizeOf9 (lb rfl) (encI_setValue _ V.1.ch.value) ?_
    refine hnil (fun w hw => ⟨_, hw.sub (List.Sublist.cons_cons _ (List.Sublist.cons_cons _ (List.Sublist.cons_cons _ (List.Sublist.cons_cons _ (List.Sublist.cons_cons _ (List.Sublist.cons_cons _ (List.nil_sublist _)))))))⟩) ?_
    refine hq1 11 rfl (by kernel_rfl) (by kernel_rfl) (by kernel_rfl) (fun c a w h => h) (.inl ⟨_, rfl⟩) (fun w hw => ⟨_, hw.sub (List.Sublist.cons_cons _ (List.Sublist.cons_cons _ (List.Sublist.cons_cons _ (List.Sublist.cons_cons _ (List.Sublist.cons_cons _ (List.Sublist.cons_cons _ (List.nil_sublist _)))))))⟩) (fun T => fa fa83_5 rfl) ?_
    refine he 12 (by kernel_rfl) rfl ?_
    refine lsts 5 rfl rfl rfl Try.sizeOf75 (lb rfl) (encI_setTags _ pg K.1.ch.gn cg K.1.ch.tag) ?_
    refine hnil (fun w hw => ⟨_, hw.sub (List.Sublist.cons_cons _ (List.Sublist.cons_cons _ (List.Sublist.cons_cons _ (List.Sublist.cons_cons _ (List.Sublist.cons_cons _ (List.Sublist.cons_cons _ (List.nil_sublist _)))))))⟩) ?_
    refine hend (by kernel_rfl) ?_
    refine nthen ?_
    refine cseq ?_
    refine creg ?_
    refine l1 (ldw 5 Try.isAgg83 Try.sizeOf83 rfl rfl rfl) ?_
    refine lstw 1 rfl rfl rfl Try.sizeOf83 rfl rfl rfl ?_
    refine lnil ?_
    refine nthen ?_
    refine cret ?_
    exact finM _ (Hn ++ Hg) (rv1 rfl (rvc 1 Try.isAgg83 Try.sizeOf83 rfl rfl rfl rfl)) ⟨_, List.Perm.refl _, (List.Sublist.cons _ (List.Sublist.cons _ (List.Sublist.cons _ (List.Sublist.cons _ (List.Sublist.cons _ (List.Sublist.cons _ (List.Sublist.refl _)))))))⟩ ⟨_, rfl, by unfold madeI; rw [← hA, ← hK, ← hV, h1]; rfl, ⟨htk.mono (fun e he => List.mem_append_left _ he), (hog.slInL (fun a => rfl) (fun i hi => ⟨i, List.getElem?_range hi, rfl⟩)).mono (fun e he => List.mem_append_right _ he)⟩⟩
  · skip
    refine cskip ?_
    refine nthen ?_
    refine cseq ?_
    refine creg ?_
    refine l1 (ldw 5 Try.isAgg83 Try.sizeOf83 rfl rfl rfl) ?_
    refine lstw 1 rfl rfl rfl Try.sizeOf83 rfl rfl rfl ?_
    refine lnil ?_
    refine nthen ?_
    refine cret ?_
    exact finM _ Hn (rv1 rfl (rvc 1 Try.isAgg83 Try.sizeOf83 rfl rfl rfl rfl)) ⟨_, List.Perm.refl _, (List.Sublist.cons _ (List.Sublist.cons _ (List.Sublist.cons _ (List.Sublist.cons _ (List.Sublist.cons _ (List.Sublist.cons _ (List.Sublist.refl _)))))))⟩ ⟨_, rfl, by unfold madeI; rw [← hA, ← hK, ← hV, h1]; rfl, ⟨htk, .inl rfl⟩⟩
end Go.Proofs.Ytkdbjhlkahkobaa
/- the keys of this program's maps -/
namespace Go.Proofs.Ytkdbjhlkahkobaa
open Jal Go.RowKit
set_option maxRecDepth 100000
def kv34 (t : Nat → Int) : Value := .agg (arr .u8 16 t).toArray
def kv140 (p : Int × Int) : Value := .agg [.int .i64 p.1, .int .u64 p.2].toArray
def eq140 (a b : Int × Int) : Bool := decide (a.1 = b.1) && decide (a.2 = b.2)
theorem bits_zip {m : Nat} : ∀ (l : List Value), (∀ x ∈ l, Instr.sameBits m x x = true) → ((l.zip l).all fun (x, y) => Instr.sameBits m x y) = true
  | [], _ => rfl
  | a :: l, h => by
    rw [List.zip_cons_cons, List.all_cons, bits_zip l (fun x hx => h x (List.mem_cons_of_mem _ hx))]
    simp [h a (by simp)]
theorem bits_agg {m : Nat} (l : List Value) (h : ∀ x ∈ l, Instr.sameBits m x x = true) : Instr.sameBits (m + 1) (.agg l.toArray) (.agg l.toArray) = true := by
  show (l.toArray.size == l.toArray.size && (l.zip l).all fun (x, y) => Instr.sameBits m x y) = true
  rw [bits_zip l h]; simp
theorem bits_int {m : Nat} (k : IntKind) (a : Int) : Instr.sameBits m (.int k a) (.int k a) = true := by
  unfold Instr.sameBits; simp
theorem K34 : KeyT Try.prog 34 (Nat → Int) kv34 (eqA 16) where
  und := ⟨_, Try.underlying34, fun _ _ => rfl⟩
  chk e a w := by cases e <;> kernel_rfl
  eq a b w := arr_eq 9998 Try.underlying34 Try.underlying5 (by kernel_rfl) a b w
  same a b h := by
    have h1 := eqA_iff.1 h
    unfold kv34 arr
    congr 2
    exact List.map_congr_left fun i hi => by rw [h1 i (List.mem_range.1 hi)]
  bits a := bits_agg _ (fun x hx => by
    obtain ⟨i, _, rfl⟩ := List.mem_map.1 hx
    exact bits_int _ _)
theorem eq140_run (a b : Int × Int) (w : World) : (Op.equal 140 (kv140 a) (kv140 b)).run Try.prog w = .ok (eq140 a b) w := by
  obtain ⟨a1, a2⟩ := a
  obtain ⟨b1, b2⟩ := b
  show (Op.equalIn (9999 + 1) 140 (.agg [.int .i64 a1, .int .u64 a2].toArray) (.agg [.int .i64 b1, .int .u64 b2].toArray)).run Try.prog w = _
  rw [run_equalIn_struct w 9999 140 _ _ (by kernel_rfl) (by kernel_rfl)]
  unfold Program.fieldsOf
  rw [Try.underlying140]
  have p1 : ∀ (x y : Int) w, (part 3 [.int .i64 x, .int .u64 y].toArray 0).run Try.prog w = .ok (.int .i64 x) w := fun x y w => by kernel_rfl
  have p2 : ∀ (x y : Int) w, (part 22 [.int .i64 x, .int .u64 y].toArray 1).run Try.prog w = .ok (.int .u64 y) w := fun x y w => by kernel_rfl
  have q1 := fun w => run_equalIn_int (P := Try.prog) w 9998 3 .i64 .i64 a1 b1 Try.underlying3
  have q2 := fun w => run_equalIn_int (P := Try.prog) w 9998 22 .u64 .u64 a2 b2 Try.underlying22
  simp only [Op.eqFields, Sem.run_bind, Sem.run_ite, p1, p2, Result.andThen_ok, q1, q2, Sem.run_pure]
  unfold eq140
  by_cases h1 : a1 = b1 <;> by_cases h2 : a2 = b2 <;> simp [h1, h2]
theorem K140 : KeyT Try.prog 140 (Int × Int) kv140 eq140 where
  und := ⟨_, Try.underlying140, fun _ _ => rfl⟩
  chk e a w := by cases e <;> kernel_rfl
  eq := eq140_run
  same a b h := by
    unfold eq140 at h
    simp only [Bool.and_eq_true, decide_eq_true_eq] at h
    unfold kv140
    rw [h.1, h.2]
  bits a := bits_agg _ (fun x hx => by
    simp only [List.mem_cons, List.not_mem_nil, or_false] at hx
    rcases hx with rfl | rfl <;> exact bits_int _ _)
end Go.Proofs.Ytkdbjhlkahkobaa
/- rows parted by item; the rows of an item -/
/- rows parted by item: plain laws -/
namespace Go.Proofs.Ytkdbjhlkahkobaa
open Jal Go.RowKit
set_option maxRecDepth 100000
def keyR (r : Rw) : Int × Int := (r.hd.writer, r.hd.seq)
def seenR (S : List Rw) (r : Rw) : Bool := S.any fun s => eq140 (keyR r) (keyR s)
def cntStep (S : List Rw) (r : Rw) : List Rw := bif !formedR r || seenR S r then S else S ++ [r]
def counted (l : Nat → Rw) (i : Nat) : List Rw := (rowsL l i).foldl cntStep []
theorem rowsL_succ (l : Nat → Rw) (i : Nat) : rowsL l (i + 1) = rowsL l i ++ [l i] := by unfold rowsL; rw [List.range_succ, List.map_append]; rfl
theorem counted_succ (l : Nat → Rw) (i : Nat) : counted l (i + 1) = cntStep (counted l i) (l i) := by
  unfold counted
  rw [rowsL_succ, List.foldl_append]; rfl
theorem counted_len (l : Nat → Rw) : ∀ i, (counted l i).length ≤ i
  | 0 => Nat.le_refl _
  | i + 1 => by
    rw [counted_succ]
    have := counted_len l i
    unfold cntStep
    cases !formedR (l i) || seenR (counted l i) (l i) with
    | true => show (counted l i).length ≤ _; omega
    | false => show (counted l i ++ [l i]).length ≤ _; rw [List.length_append]; simp; omega
/-- a group: token, rows, where they lie -/
structure Gp where
  tok : Nat → Int
  rows : List Rw
  v : Value
  oe : List Ent
def one64 : Value := .int .i64 1
def cm (S : List Rw) : List ((Int × Int) × Value) := S.map fun r => (keyR r, one64)
def gm (G : List Gp) : List ((Nat → Int) × Value) := G.map fun g => (g.tok, g.v)
def gh (G : List Gp) : List Ent := G.flatMap (·.oe)
theorem cm_len (S : List Rw) : (cm S).length = S.length := by simp [cm]
theorem cm_find (r : Rw) : ∀ (S : List Rw) (i : Nat), findM eq140 (keyR r) (cm S) i = none ∧ seenR S r = false ∨ ∃ j, findM eq140 (keyR r) (cm S) i = some (j, one64) ∧ seenR S r = true
  | [], _ => .inl ⟨rfl, rfl⟩
  | s :: S, i => by
    show (bif eq140 (keyR r) (keyR s) then some (i, one64) else findM eq140 (keyR r) (cm S) (i + 1)) = none ∧ _ ∨ ∃ j, (bif eq140 (keyR r) (keyR s) then some (i, one64) else findM eq140 (keyR r) (cm S) (i + 1)) = some (j, one64) ∧ _
    have e : seenR (s :: S) r = (eq140 (keyR r) (keyR s) || seenR S r) := rfl
    rw [e]
    cases eq140 (keyR r) (keyR s) with
    | true => exact .inr ⟨i, rfl, rfl⟩
    | false => exact cm_find r S (i + 1)
/-- how often it was seen -/
theorem cm_val (S : List Rw) (r : Rw) : valM eq140 (keyR r) (cm S) (.int .i64 0) = .int .i64 (bif seenR S r then 1 else 0) := by
  unfold valM
  rcases cm_find r S 0 with ⟨h1, h2⟩ | ⟨j, h1, h2⟩
  · rw [h1, h2]; rfl
  · rw [h1, h2]; rfl
theorem cm_put {S : List Rw} {r : Rw} (h : seenR S r = false) (z : Value) : putM eq140 (keyR r) (cm S) z = cm S ++ [(keyR r, z)] ∧ idxM eq140 (keyR r) (cm S) = S.length := by
  rcases cm_find r S 0 with ⟨h1, _⟩ | ⟨j, _, h2⟩
  · unfold putM idxM
    rw [h1]
    exact ⟨rfl, cm_len S⟩
  · rw [h] at h2; cases h2
theorem setM_last {κ : Type} (k : κ) (z v : Value) : ∀ (M : List (κ × Value)), setM (M ++ [(k, z)]) M.length v = M ++ [(k, v)]
  | [] => rfl
  | p :: M => by
    have h := setM_last k z v M
    show p :: setM (M ++ [(k, z)]) M.length v = p :: (M ++ [(k, v)])
    rw [h]
/-- after its entry was made, it is there with 0 -/
theorem cm_val2 {S : List Rw} {r : Rw} (h : seenR S r = false) : valM eq140 (keyR r) (cm S ++ [(keyR r, .int .i64 0)]) (.int .i64 0) = .int .i64 0 := by
  have : ∀ (S : List Rw) i, seenR S r = false → ∃ j, findM eq140 (keyR r) (cm S ++ [(keyR r, .int .i64 0)]) i = some (j, .int .i64 0) := by
    intro S
    induction S with
    | nil =>
      intro i _
      refine ⟨i, ?_⟩
      show (bif eq140 (keyR r) (keyR r) then _ else _) = _
      have : eq140 (keyR r) (keyR r) = true := by simp [eq140]
      rw [this]; rfl
    | cons s S ih =>
      intro i hs
      have e : seenR (s :: S) r = (eq140 (keyR r) (keyR s) || seenR S r) := rfl
      rw [e, Bool.or_eq_false_iff] at hs
      obtain ⟨j, hj⟩ := ih (i + 1) hs.2
      refine ⟨j, ?_⟩
      show (bif eq140 (keyR r) (keyR s) then _ else _) = _
      rw [hs.1]
      exact hj
  obtain ⟨j, hj⟩ := this S 0 h
  unfold valM
  rw [hj]
/-- one row more, put into its group -/
def addP (G : List ((Nat → Int) × List Rw)) (r : Rw) : List ((Nat → Int) × List Rw) :=
  match G with
  | [] => [(r.hd.item, [r])]
  | (t, R) :: G => bif eqA 16 r.hd.item t then (t, R ++ [r]) :: G else (t, R) :: addP G r
def partsOf (C : List Rw) : List ((Nat → Int) × List Rw) := C.foldl addP []
def GpOk (g : Gp) : Prop := OwnL 79 130 g.v g.rows.length (g.rows.flatMap encR) g.oe
def pg (G : List Gp) : List ((Nat → Int) × List Rw) := G.map fun g => (g.tok, g.rows)
def znil : Value := .slice none 0 0
theorem grp_step (r : Rw) (N : Nat) : ∀ (G : List Gp) (i : Nat), (∀ g ∈ G, GpOk g) → (∀ g ∈ G, g.rows.length ≤ N) →
    ∃ A B oe rows v j, gh G = A ++ (oe ++ B) ∧ OwnL 79 130 v rows.length (rows.flatMap encR) oe ∧ rows.length ≤ N ∧
      ((findM (eqA 16) r.hd.item (gm G) i = some (i + j, v) ∧ j < G.length) ∨ (findM (eqA 16) r.hd.item (gm G) i = none ∧ v = znil ∧ j = G.length)) ∧
      ∀ v' oe', OwnL 79 130 v' (rows.length + 1) ((rows ++ [r]).flatMap encR) oe' → ∃ G', gh G' = A ++ (oe' ++ B) ∧ (∀ g ∈ G', GpOk g) ∧ (∀ g ∈ G', g.rows.length ≤ N + 1) ∧ pg G' = addP (pg G) r ∧
        gm G' = setM (bif decide (j < G.length) then gm G else gm G ++ [(r.hd.item, znil)]) j v'
  | [], i, _, _ => by
    refine ⟨[], [], [], [], znil, 0, rfl, OwnL.nil 79 130, Nat.zero_le _, .inr ⟨rfl, rfl, rfl⟩, fun v' oe' h => ⟨[⟨r.hd.item, [r], v', oe'⟩], by simp [gh], fun g hg => ?_, fun g hg => ?_, rfl, rfl⟩⟩
    · obtain rfl := List.mem_singleton.1 hg; exact h
    · obtain rfl := List.mem_singleton.1 hg; simp
  | g :: G, i, hok, hN => by
    have e0 : findM (eqA 16) r.hd.item (gm (g :: G)) i = bif eqA 16 r.hd.item g.tok then some (i, g.v) else findM (eqA 16) r.hd.item (gm G) (i + 1) := rfl
    have e1 : addP (pg (g :: G)) r = bif eqA 16 r.hd.item g.tok then (g.tok, g.rows ++ [r]) :: pg G else (g.tok, g.rows) :: addP (pg G) r := rfl
    rw [e0, e1]
    cases hq : eqA 16 r.hd.item g.tok with
    | true =>
      refine ⟨[], gh G, g.oe, g.rows, g.v, 0, rfl, hok g (by simp), hN g (by simp), .inl ⟨rfl, by simp⟩, fun v' oe' h => ⟨⟨g.tok, g.rows ++ [r], v', oe'⟩ :: G, rfl, fun x hx => ?_, fun x hx => ?_, rfl, ?_⟩⟩
      · rcases List.mem_cons.1 hx with rfl | hx
        · unfold GpOk; rw [List.length_append]; exact h
        · exact hok x (List.mem_cons_of_mem _ hx)
      · rcases List.mem_cons.1 hx with rfl | hx
        · have := hN g (by simp)
          show (g.rows ++ [r]).length ≤ _
          rw [List.length_append]; simp; omega
        · have := hN x (List.mem_cons_of_mem _ hx); omega
      · have : decide (0 < (g :: G).length) = true := by simp
        rw [this]; rfl
    | false =>
      obtain ⟨A, B, oe, rows, v, j, h1, h2, h3, h4, h5⟩ := grp_step r N G (i + 1) (fun x hx => hok x (List.mem_cons_of_mem _ hx)) (fun x hx => hN x (List.mem_cons_of_mem _ hx))
      refine ⟨g.oe ++ A, B, oe, rows, v, j + 1, ?_, h2, h3, ?_, fun v' oe' h => ?_⟩
      · show g.oe ++ gh G = _
        rw [h1, List.append_assoc]
      · rcases h4 with ⟨h4, h6⟩ | ⟨h4, h6, h7⟩
        · exact .inl ⟨by show findM (eqA 16) r.hd.item (gm G) (i + 1) = _; rw [h4, show i + 1 + j = i + (j + 1) by omega], by simp; omega⟩
        · exact .inr ⟨h4, h6, by simp; omega⟩
      · obtain ⟨G', g1, g2, g3, g4, g5⟩ := h5 v' oe' h
        refine ⟨g :: G', ?_, fun x hx => ?_, fun x hx => ?_, ?_, ?_⟩
        · show g.oe ++ gh G' = _
          rw [g1, List.append_assoc]
        · rcases List.mem_cons.1 hx with rfl | hx
          · exact hok _ (by simp)
          · exact g2 x hx
        · rcases List.mem_cons.1 hx with rfl | hx
          · have := hN x (by simp); omega
          · exact g3 x hx
        · show (g.tok, g.rows) :: pg G' = _
          rw [g4]; rfl
        · have e2 : decide (j + 1 < (g :: G).length) = decide (j < G.length) := by simp
          rw [e2]
          show (g.tok, g.v) :: gm G' = _
          rw [g5]
          cases decide (j < G.length) <;> rfl
theorem cm_val0 {S : List Rw} {r : Rw} (h : seenR S r = false) : valM eq140 (keyR r) (cm S) (.int .i64 0) = .int .i64 0 := by rw [cm_val, h]; rfl
theorem cm_set (S : List Rw) (r : Rw) (z : Value) : setM (cm S ++ [(keyR r, z)]) S.length one64 = cm (S ++ [r]) := by
  have := setM_last (keyR r) z one64 (cm S)
  rw [cm_len] at this
  rw [this]
  unfold cm
  rw [List.map_append]; rfl
def gput (G : List Gp) (r : Rw) (j : Nat) : List ((Nat → Int) × Value) := bif decide (j < G.length) then gm G else gm G ++ [(r.hd.item, znil)]
theorem grp_find {G : List Gp} {r : Rw} {v : Value} {j : Nat} (h : (findM (eqA 16) r.hd.item (gm G) 0 = some (0 + j, v) ∧ j < G.length) ∨ (findM (eqA 16) r.hd.item (gm G) 0 = none ∧ v = znil ∧ j = G.length)) :
    valM (eqA 16) r.hd.item (gm G) znil = v ∧ idxM (eqA 16) r.hd.item (gm G) = j ∧ putM (eqA 16) r.hd.item (gm G) znil = gput G r j ∧ j < (gput G r j).length := by
  have hl : (gm G).length = G.length := by simp [gm]
  unfold valM idxM putM gput
  rcases h with ⟨h, hj⟩ | ⟨h, hv, hj⟩
  · rw [h, decide_eq_true hj]
    exact ⟨rfl, by simp, rfl, by show j < (gm G).length; omega⟩
  · rw [h, decide_eq_false (by omega)]
    exact ⟨hv.symm, by show (gm G).length = j; omega, rfl, by show j < (gm G ++ [_]).length; simp; omega⟩
structure ParS where
  i : Nat
  G : List Gp
  S : List Rw
  W : World
structure ParOk (w : World) (r1 r2 : Nat) (l : Nat → Rw) (n : Nat) (s : ParS) : Prop where
  hi : s.i ≤ n
  below : Below w.heap.size w s.W
  lo1 : w.heap.size ≤ r1
  lo2 : w.heap.size ≤ r2
  l1 : r1 < s.W.heap.size
  l2 : r2 < s.W.heap.size
  ne : r1 ≠ r2
  o1 : s.W.heap[r1]? = some (mob kv34 (gm s.G))
  o2 : s.W.heap[r2]? = some (mob kv140 (cm s.S))
  cnt : s.S = counted l s.i
  grp : pg s.G = partsOf s.S
  ok : ∀ g ∈ s.G, GpOk g
  len : ∀ g ∈ s.G, g.rows.length ≤ s.i
theorem Below_setB {w W : World} (h : Below w.heap.size w W) {r : Nat} (hr : w.heap.size ≤ r) (o : Obj) : Below w.heap.size w (setB W r o) :=
  ⟨h.os, h.tape, h.output, by rw [setB_size]; exact h.size, fun k hk => by rw [setB_other (by omega)]; exact h.block k hk⟩
theorem ParOk.skip {w : World} {r1 r2 : Nat} {l : Nat → Rw} {n : Nat} {s : ParS} (h : ParOk w r1 r2 l n s) (hi : s.i < n) (hk : (!formedR (l s.i) || seenR s.S (l s.i)) = true) : ParOk w r1 r2 l n ⟨s.i + 1, s.G, s.S, s.W⟩ :=
  ⟨hi, h.below, h.lo1, h.lo2, h.l1, h.l2, h.ne, h.o1, h.o2, by
    show s.S = counted l (s.i + 1)
    rw [counted_succ, ← h.cnt]
    unfold cntStep
    rw [hk]; rfl, h.grp, h.ok, fun g hg => Nat.le_succ_of_le (h.len g hg)⟩
theorem ParOk.next {w : World} {r1 r2 : Nat} {l : Nat → Rw} {n : Nat} {s : ParS} (h : ParOk w r1 r2 l n s) (hi : s.i < n) (hk : (!formedR (l s.i) || seenR s.S (l s.i)) = false) {G' : List Gp}
    (h1 : ∀ g ∈ G', GpOk g) (h2 : ∀ g ∈ G', g.rows.length ≤ s.i + 1) (h3 : pg G' = addP (pg s.G) (l s.i)) : ParOk w r1 r2 l n ⟨s.i + 1, G', s.S ++ [l s.i], setB (setB s.W r2 (mob kv140 (cm (s.S ++ [l s.i])))) r1 (mob kv34 (gm G'))⟩ :=
  ⟨hi, Below_setB (Below_setB h.below h.lo2 _) h.lo1 _, h.lo1, h.lo2, by rw [setB_size, setB_size]; exact h.l1, by rw [setB_size, setB_size]; exact h.l2, h.ne, setB_same (by rw [setB_size]; exact h.l1),
    by rw [setB_other (fun e => h.ne e.symm)]; exact setB_same h.l2, by
      show s.S ++ [l s.i] = counted l (s.i + 1)
      rw [counted_succ, ← h.cnt]
      unfold cntStep
      rw [hk]; rfl, by
      show pg G' = partsOf (s.S ++ [l s.i])
      rw [h3, h.grp]
      unfold partsOf
      rw [List.foldl_append]; rfl, h1, h2⟩
/-- what parting gives -/
def PartR (w : World) (l : Nat → Rw) (n : Nat) : Ending → World → Prop := fun e w' => ∃ r W G, e = .returned (.map (some r)) ∧ Below w.heap.size w W ∧ w.heap.size ≤ r ∧ r < W.heap.size ∧ W.heap[r]? = some (mob kv34 (gm G)) ∧ (∀ g ∈ G, GpOk g) ∧
  pg G = partsOf (counted l n) ∧ (∀ g ∈ G, g.rows.length ≤ n) ∧ Sat W (gh G) w'
theorem bk140 (a b : Int) : ∀ w, (Instr.build 140 #[(0, .int .i64 a), (1, .int .u64 b)]).run Try.prog w = .ok (.agg [.int .i64 a, .int .u64 b].toArray) w := fun w => by kernel_rfl
end Go.Proofs.Ytkdbjhlkahkobaa
/- the rows of an item -/
namespace Go.Proofs.Ytkdbjhlkahkobaa
open Jal Go.RowKit
set_option maxRecDepth 100000
theorem eqA_symm {n : Nat} {a b : Nat → Int} (h : eqA n a b = true) : eqA n b a = true := eqA_iff.2 fun i hi => (eqA_iff.1 h i hi).symm
theorem eqA_trans {n : Nat} {a b c : Nat → Int} (h : eqA n a b = true) (h2 : eqA n b c = true) : eqA n a c = true := eqA_iff.2 fun i hi => (eqA_iff.1 h i hi).trans (eqA_iff.1 h2 i hi)
def lookP (tok : Nat → Int) : List ((Nat → Int) × List Rw) → List Rw
  | [] => []
  | (t, R) :: P => bif eqA 16 tok t then R else lookP tok P
theorem lookP_add (tok : Nat → Int) (r : Rw) : ∀ P : List ((Nat → Int) × List Rw), lookP tok (addP P r) = bif eqA 16 tok r.hd.item then lookP tok P ++ [r] else lookP tok P
  | [] => by
    show (bif eqA 16 tok r.hd.item then [r] else []) = _
    cases eqA 16 tok r.hd.item <;> rfl
  | (t, R) :: P => by
    have ih := lookP_add tok r P
    unfold addP
    cases h1 : eqA 16 r.hd.item t with
    | true =>
      show (bif eqA 16 tok t then R ++ [r] else lookP tok P) = bif eqA 16 tok r.hd.item then (bif eqA 16 tok t then R else lookP tok P) ++ [r] else (bif eqA 16 tok t then R else lookP tok P)
      cases h2 : eqA 16 tok t with
      | true => rw [eqA_trans h2 (eqA_symm h1)]; rfl
      | false =>
        cases h3 : eqA 16 tok r.hd.item with
        | true => rw [eqA_trans h3 h1] at h2; cases h2
        | false => rfl
    | false =>
      show (bif eqA 16 tok t then R else lookP tok (addP P r)) = bif eqA 16 tok r.hd.item then (bif eqA 16 tok t then R else lookP tok P) ++ [r] else (bif eqA 16 tok t then R else lookP tok P)
      rw [ih]
      cases h2 : eqA 16 tok t with
      | true =>
        cases h3 : eqA 16 tok r.hd.item with
        | true => rw [eqA_trans (eqA_symm h3) h2] at h1; cases h1
        | false => rfl
      | false => rfl
def ofRows (tok : Nat → Int) (C : List Rw) : List Rw := C.filter fun r => eqA 16 tok r.hd.item
theorem lookP_fold (tok : Nat → Int) : ∀ (C : List Rw) (P : List ((Nat → Int) × List Rw)), lookP tok (C.foldl addP P) = lookP tok P ++ ofRows tok C
  | [], P => (List.append_nil _).symm
  | r :: C, P => by
    show lookP tok (C.foldl addP (addP P r)) = _
    rw [lookP_fold tok C, lookP_add]
    unfold ofRows
    rw [List.filter_cons]
    cases eqA 16 tok r.hd.item with
    | true => simp
    | false => simp
theorem lookP_parts (tok : Nat → Int) (C : List Rw) : lookP tok (partsOf C) = ofRows tok C := lookP_fold tok C []
theorem grp_look (tok : Nat → Int) (N : Nat) : ∀ (G : List Gp), (∀ g ∈ G, GpOk g) → (∀ g ∈ G, g.rows.length ≤ N) →
    ∃ A B oe v, gh G = A ++ (oe ++ B) ∧ (∀ i, ∃ q, findM (eqA 16) tok (gm G) i = q ∧ (q = none ∧ v = znil ∨ ∃ k, q = some (k, v))) ∧ OwnL 79 130 v (lookP tok (pg G)).length ((lookP tok (pg G)).flatMap encR) oe ∧ (lookP tok (pg G)).length ≤ N
  | [], _, _ => ⟨[], [], [], znil, rfl, fun i => ⟨none, rfl, .inl ⟨rfl, rfl⟩⟩, OwnL.nil 79 130, Nat.zero_le _⟩
  | g :: G, hok, hN => by
    have e0 : ∀ i, findM (eqA 16) tok (gm (g :: G)) i = bif eqA 16 tok g.tok then some (i, g.v) else findM (eqA 16) tok (gm G) (i + 1) := fun _ => rfl
    have e1 : lookP tok (pg (g :: G)) = bif eqA 16 tok g.tok then g.rows else lookP tok (pg G) := rfl
    simp only [e0, e1]
    cases hq : eqA 16 tok g.tok with
    | true => exact ⟨[], gh G, g.oe, g.v, rfl, fun i => ⟨_, rfl, .inr ⟨i, rfl⟩⟩, hok g (by simp), hN g (by simp)⟩
    | false =>
      obtain ⟨A, B, oe, v, h1, h2, h3, h4⟩ := grp_look tok N G (fun x hx => hok x (List.mem_cons_of_mem _ hx)) (fun x hx => hN x (List.mem_cons_of_mem _ hx))
      exact ⟨g.oe ++ A, B, oe, v, by show g.oe ++ gh G = _; rw [h1, List.append_assoc], fun i => h2 (i + 1), h3, h4⟩
theorem grp_val {tok : Nat → Int} {G : List Gp} {v : Value} (h : ∀ i, ∃ q, findM (eqA 16) tok (gm G) i = q ∧ (q = none ∧ v = znil ∨ ∃ k, q = some (k, v))) : valM (eqA 16) tok (gm G) znil = v := by
  obtain ⟨q, h1, h2⟩ := h 0
  unfold valM
  rw [h1]
  rcases h2 with ⟨rfl, rfl⟩ | ⟨k, rfl⟩
  · rfl
  · rfl
def PartF (w : World) (l : Nat → Rw) (n : Nat) (v : Value) (W : World) (Hn : List Ent) : Prop := ∃ r G, v = .map (some r) ∧ Hn = gh G ∧ w.heap.size ≤ r ∧ r < W.heap.size ∧ W.heap[r]? = some (mob kv34 (gm G)) ∧ (∀ g ∈ G, GpOk g) ∧ pg G = partsOf (counted l n) ∧ (∀ g ∈ G, g.rows.length ≤ n)
theorem PartR.base {w : World} {l : Nat → Rw} {n : Nat} {e : Ending} {w' : World} (h : PartR w l n e w') : BaseR (PartF w l n) w e w' := by
  obtain ⟨r, W, G, h1, h2, h3, h4, h5, h6, h7, h8, h9⟩ := h
  exact ⟨_, W, gh G, h1, h2, ⟨r, G, rfl, rfl, h3, h4, h5, h6, h7, h8⟩, h9⟩
theorem cnt_mem (l : Nat → Rw) : ∀ (i : Nat) (r : Rw), r ∈ counted l i → ∃ j, j < i ∧ r = l j ∧ formedR r = true
  | 0, r, h => by cases h
  | i + 1, r, h => by
    rw [counted_succ] at h
    unfold cntStep at h
    cases hk : !formedR (l i) || seenR (counted l i) (l i) with
    | true =>
      rw [hk] at h
      obtain ⟨j, h1, h2⟩ := cnt_mem l i r h
      exact ⟨j, by omega, h2⟩
    | false =>
      rw [hk] at h
      rcases List.mem_append.1 h with h | h
      · obtain ⟨j, h1, h2⟩ := cnt_mem l i r h
        exact ⟨j, by omega, h2⟩
      · obtain rfl := List.mem_singleton.1 h
        rw [Bool.or_eq_false_iff] at hk
        exact ⟨i, by omega, rfl, by simpa using hk.1⟩
/-- the item of a token -/
def ofI (tok : Nat → Int) (l : Nat → Rw) (n : Nat) : It × Bool :=
  bif decide (((ofRows tok (counted l n)).length : Int) = 0) then (iz, false) else (madeI tok (ofRows tok (counted l n)), true)
theorem getL_rows (L : List Rw) : rowsL (fun i => L.getD i rz) L.length = L := by
  apply List.ext_getElem?
  intro i
  unfold rowsL
  rw [List.getElem?_map]
  by_cases hi : i < L.length
  · rw [List.getElem?_range hi, List.getElem?_eq_getElem hi]
    show some (L.getD i rz) = _
    rw [List.getD_eq_getElem?_getD, List.getElem?_eq_getElem hi]; rfl
  · rw [List.getElem?_eq_none (by rw [List.length_range]; omega), List.getElem?_eq_none (by omega)]; rfl
end Go.Proofs.Ytkdbjhlkahkobaa
