/- walks, printed by a program of ours -/
import Derived.Test.YtkdbjhlkahkobaaTy
import Derived.Test.YtkdbjhlkahkobaaDef
import Derived.Test.YtkdbjhlkahkobaaWs
import Derived.Test.YtkdbjhlkahkobaaTrn
namespace Go.Proofs.Ytkdbjhlkahkobaa
open Jal Go.RowKit
set_option maxRecDepth 100000
theorem neql24 {x y : Operand} (a b : Vec) (w : World) : (do eqGuard .neq 24 x y (.agg (encV a).toArray) (.agg (encV b).toArray); binOp .neq 24 (.agg (encV a).toArray) (.agg (encV b).toArray)).run Try.prog w = .ok (.bool (!eqV a b)) w := by
  have ht : Try.prog.eqGuardType Try.prog.depth 24 = false := by kernel_rfl
  have he : (Op.equal 24 (.agg (encV a).toArray) (.agg (encV b).toArray)).run Try.prog w = .ok (eqV a b) w := equal24 9998 a b w
  simp [eqGuard, binOp, Sem.run_bind, run_program, ht, he]
def trnL (l : Nat → Hd) (n a i : Nat) : List Hd := (List.range i).map (fun k => l ((k + a) % n))
theorem trnL_succ (l : Nat → Hd) (n a i : Nat) : trnL l n a (i + 1) = trnL l n a i ++ [l ((i + a) % n)] := by
  unfold trnL; rw [List.range_succ, List.map_append]; rfl
theorem trnL_len (l : Nat → Hd) (n a i : Nat) : (trnL l n a i).length = i := by simp [trnL]
theorem trnL_perm (l : Nat → Hd) (n a : Nat) : (trnL l n a n).Perm ((List.range n).map l) := by
  have := (turn_perm n a).map l
  rwa [List.map_map] at this
def NoDup (l : Nat → Hd) (a b : Nat) : Prop := ¬ ((l a).writer = (l b).writer ∧ (l a).seq = (l b).seq)

set_option maxHeartbeats 2000000 in
theorem turned_law (v : Vec) (a : Nat) (ha : a ≤ 255) (w : World) (p : Option Addr) (n c : Nat) (l : Nat → Hd) (hn : (n : Int) ≤ 9223372036854775807) (hl : Sl w p n 125 (fun i => encH (l i))) (hx : ∀ i, i < n → HdIn w (l i)) (kx : ∀ i, i < n → HdOk (l i)) : Calls Try.prog 13 #[.agg (encV v).toArray, .slice p n c, .int .u8 (a : Int)] w (Ret (.bool true) w) := by
  refine fn_calls (n := 135) Try.func13 rfl rfl (lb rfl) ?_
  refine cseq ?_
  refine creg ?_
  refine lbxa rfl (fun b1 => ?_)
  refine l1 (asgb rfl) ?_
  refine lnil ?_
  refine nthen ?_
  refine cseq ?_
  refine cseq ?_
  refine creg ?_
  refine l1 (cl hb24 rfl mn (fun w hw => awake14_calls w)) ?_
  refine l1 (nt rfl) ?_
  refine l1 (mvb rfl) ?_
  refine l1g rfl (gwf rfl) (fun h => mvs rfl) ?_
  refine l1g rfl (gwf rfl) (fun h => cl hb44 rfl (mc (gvt h) (mc rfl mn)) (fun w' hw => few_calls w' _ _ _ l _ hn (Sl.keptS hl hw))) ?_
  refine l1g rfl (gwf rfl) (fun h => nt (gvt h)) ?_
  refine l1 (pk_or rfl rfl rfl) ?_
  refine lnil ?_
  refine nthen ?_
  refine cif rfl (fun h1 => ?_) (fun h1 => ?_)
  · skip
    refine cseq ?_
    refine creg ?_
    refine l1 (cl hb24 rfl mn (fun w hw => awake14_calls w)) ?_
    refine l1 (asgb rfl) ?_
    refine lnil ?_
    refine nthen ?_
    refine cret ?_
    refine nthenR ?_
    exact fin1 rfl rfl
  · have hn30 : n ≤ 20 := by (simp [fewB] at h1; omega)
    have hn40 : n ≤ 40 := by omega
    refine cskip ?_
    refine nthen ?_
    refine cseq ?_
    refine creg ?_
    refine l1 (asg rfl) ?_
    refine lnil ?_
    refine nthen ?_
    refine cseq ?_
    refine cseq ?_
    refine creg ?_
    refine l1 (asgi rfl) ?_
    refine lnil ?_
    refine nthen ?_
    refine cblock ?_
    refine cloopI (σ := Nat × Value × List Ent) (fun s => [(1, .slice p n c), (2, .int .u8 (a : Int)), (3, .pointer (some ⟨b1, 0, none⟩)), (7, s.2.1), (8, .int .i64 (s.1 : Int))]) (fun s => ([⟨b1, encV v, 24⟩] ++ (s.2.2))) (fun s => s.1 ≤ n ∧ OwnL 37 125 s.2.1 s.1 ((trnL l n a s.1).flatMap encH) s.2.2 ∧ ∀ x, x < s.1 → ∀ y, y < x → NoDup l x y) (fun s => n - s.1) (0, .slice none 0 0, []) ⟨Nat.zero_le _, OwnL.nil 37 125, fun x hx => by omega⟩ ⟨rfl, rfl, rfl, rfl, rfl, trivial⟩ (List.Sublist.refl _) ?_
    rintro ⟨i, ov, oe⟩ j ⟨hi, hown, hU⟩; replace hi : i ≤ n := hi; replace hown : OwnL 37 125 ov i ((trnL l n a i).flatMap encH) oe := hown; replace hU : ∀ x, x < i → ∀ y, y < x → NoDup l x y := hU; obtain ⟨rp, rc, rfl⟩ := hown.form
    show WC _ _ _ (⟨b1, encV v, 24⟩ :: (oe)) _ _ (over j [(1, .slice p n c), (2, .int .u8 (a : Int)), (3, .pointer (some ⟨b1, 0, none⟩)), (7, .slice rp i rc), (8, .int .i64 (i : Int))])
    refine cseq ?_
    refine cseq ?_
    refine creg ?_
    refine l1 (mvi rfl) ?_
    refine l1 (mvs rfl) ?_
    refine l1 (lens sl54 rfl rfl) ?_
    refine l1 (lss rfl rfl) ?_
    refine lnil ?_
    refine nthen ?_
    refine cif rfl (fun h2 => ?_) (fun h2 => ?_)
    · have hlt : i < n := by (have := dt h2; omega)
      obtain ⟨b, o, hp, hbl, hm⟩ := hl.at hlt
      refine cskip ?_
      refine nthen ?_
      refine cseq ?_
      refine cblock ?_
      refine cseq ?_
      refine cseq ?_
      refine creg ?_
      refine l1 (asgi rfl) ?_
      refine lnil ?_
      refine nthen ?_
      refine cblock ?_
      refine cloopI (σ := Nat) (fun s => [(1, .slice p n c), (2, .int .u8 (a : Int)), (3, .pointer (some ⟨b1, 0, none⟩)), (7, .slice rp i rc), (8, .int .i64 (i : Int)), (9, .int .i64 (s : Int))]) (fun s => ([⟨b1, encV v, 24⟩] ++ (oe))) (fun s => s ≤ i ∧ ∀ y, y < s → NoDup l i y) (fun s => i - s) 0 ⟨Nat.zero_le _, fun y hy => by omega⟩ ⟨rfl, rfl, rfl, rfl, rfl, rfl, trivial⟩ (List.Sublist.refl _) ?_
      rintro k j ⟨hk, hK⟩
      show WC _ _ _ (⟨b1, encV v, 24⟩ :: (oe)) _ _ (over j [(1, .slice p n c), (2, .int .u8 (a : Int)), (3, .pointer (some ⟨b1, 0, none⟩)), (7, .slice rp i rc), (8, .int .i64 (i : Int)), (9, .int .i64 (k : Int))])
      replace hk : k ≤ i := hk; replace hK : ∀ y, y < k → NoDup l i y := hK
      refine cseq ?_
      refine cseq ?_
      refine creg ?_
      refine l1 (mvi rfl) ?_
      refine l1 (mvi rfl) ?_
      refine l1 (lss rfl rfl) ?_
      refine lnil ?_
      refine nthen ?_
      refine cif rfl (fun h3 => ?_) (fun h3 => ?_)
      · have hki : k < i := by (have := dt h3; omega)
        refine cskip ?_
        refine nthen ?_
        refine cseq ?_
        refine cblock ?_
        refine cseq ?_
        refine cregq mo (by kernel_rfl) ?_
        refine q1 (mvs rfl) ?_
        refine q1 (mvi rfl) ?_
        refine q1 (isp sl54 hp rfl rfl (by omega) (by omega)) ?_
        refine q1 (fa fa37_0 rfl) ?_
        refine q1 (ldm (v := .int .i64 (l i).writer) Try.isAgg3 rfl (fun w' hw => ((hm i (by omega)).kept hw.below hbl).at (encH_writer _))) ?_
        refine q1 (mvs rfl) ?_
        refine q1 (mvi rfl) ?_
        refine q1 (isp sl54 hp rfl rfl (by omega) (by omega)) ?_
        refine q1 (fa fa37_0 rfl) ?_
        refine q1 (ldm (v := .int .i64 (l k).writer) Try.isAgg3 rfl (fun w' hw => ((hm k (by omega)).kept hw.below hbl).at (encH_writer _))) ?_
        refine q1 (eql rfl rfl) ?_
        refine q1 (mvb rfl) ?_
        refine q1g rfl (gwt rfl) (fun h => mvs rfl) ?_
        refine q1g rfl (gwt rfl) (fun h => mvi rfl) ?_
        refine q1g rfl (gwt rfl) (fun h => isp sl54 hp (gvt h) (gvt h) (by omega) (by omega)) ?_
        refine q1g rfl (gwt rfl) (fun h => fa fa37_1 (gvt h)) ?_
        refine q1g rfl (gwt rfl) (fun h => ldm (v := .int .u64 (l i).seq) Try.isAgg22 (gvt h) (fun w' hw => ((hm i (by omega)).kept hw.below hbl).at (encH_seq _))) ?_
        refine q1g rfl (gwt rfl) (fun h => mvs rfl) ?_
        refine q1g rfl (gwt rfl) (fun h => mvi rfl) ?_
        refine q1g rfl (gwt rfl) (fun h => isp sl54 hp (gvt h) (gvt h) (by omega) (by omega)) ?_
        refine q1g rfl (gwt rfl) (fun h => fa fa37_1 (gvt h)) ?_
        refine q1g rfl (gwt rfl) (fun h => ldm (v := .int .u64 (l k).seq) Try.isAgg22 (gvt h) (fun w' hw => ((hm k (by omega)).kept hw.below hbl).at (encH_seq _))) ?_
        refine q1g rfl (gwt rfl) (fun h => eql (gvt h) (gvt h)) ?_
        refine q1 (pk_and rfl rfl rfl) ?_
        refine qnil ?_
        refine nthen ?_
        refine cif rfl (fun h4 => ?_) (fun h4 => ?_)
        · skip
          refine cseq ?_
          refine creg ?_
          refine l1 (asgb rfl) ?_
          refine lnil ?_
          refine nthen ?_
          refine cret ?_
          refine nblkR ?_
          refine nthenR ?_
          refine nIR ?_
          refine nblkR ?_
          refine nthenR ?_
          refine nblkR ?_
          refine nthenR ?_
          refine nIR ?_
          refine nblkR ?_
          refine nthenR ?_
          exact fin1 rfl rfl
        · have hnd : NoDup l i k := by (intro hc; simp [hc.1, hc.2] at h4)
          refine cskip ?_
          refine nblkN ?_
          refine nthen ?_
          refine creg ?_
          refine l1 (mvi rfl) ?_
          first | refine l1 (addn rfl rfl (ri (by omega) (by omega))) ?_ | refine l1 (add rfl rfl) ?_
          refine l1 (asgi rfl) ?_
          refine lnil ?_
          exact nI (k + 1) ⟨by omega, fun y hy => (Nat.lt_succ_iff_lt_or_eq.1 hy).elim (fun h => hK y h) (fun h => by subst h; exact hnd)⟩ (by show i - (k + 1) < i - k; omega) ⟨rfl, rfl, rfl, rfl, rfl, rfl, trivial⟩ (List.Sublist.refl _)
      · have hki : i ≤ k := by (have := df h3; omega)
        have hmod := Nat.mod_lt (i + a) (show 0 < n by omega)
        refine cexit ?_
        refine nthenE ?_
        refine nIE ?_
        refine nblkE ?_
        refine nthen ?_
        refine creg ?_
        refine l1 (mvs rfl) ?_
        refine l1 (mvs rfl) ?_
        refine l1 (mvi rfl) ?_
        refine l1 (mvi rfl) ?_
        refine l1 (cvn ⟨_, Try.underlying5⟩ Try.underlying3 rfl (ri (by omega) (by omega))) ?_
        refine l1 (addn rfl rfl (ri (by omega) (by omega))) ?_
        refine l1 (mvs rfl) ?_
        refine l1 (lens sl54 rfl rfl) ?_
        refine l1 (remn (r := (((i + a) % n : Nat) : Int)) rfl rfl (by omega) (by rw [← Int.natCast_add]; exact (Int.ofNat_tmod _ _).symm)) ?_
        refine l1 (isp sl54 hp rfl rfl (by omega) (by omega)) ?_
        refine l1 (ldam (vs := encH (l ((i + a) % n))) Try.isAgg37 Try.sizeOf37 rfl rfl (fun w' hw => (hm _ hmod).kept hw.below hbl)) ?_
        refine lbs Try.underlying54 rfl (bs54 _) (fun b2 => ?_)
        refine wl_perm (ins_perm 1 _ _) ?_
        refine lapp [_, _] [] oe el54 (by rw [List.append_nil]; rfl) rfl hown rfl (news := encH (l ((i + a) % n))) rfl (fun w' hw => by have := hw.mem (i := 1) rfl 0; simpa using this) (encH_one _) (by decide) (by unfold maxLen; omega) (by omega) ?_
        intro g cap oe' hown1
        refine l1 (asg rfl) ?_
        refine lnil ?_
        refine nblkN ?_
        refine nthen ?_
        refine creg ?_
        refine l1 (mvi rfl) ?_
        first | refine l1 (addn rfl rfl (ri (by omega) (by omega))) ?_ | refine l1 (add rfl rfl) ?_
        refine l1 (asgi rfl) ?_
        refine lnil ?_
        exact nI (i + 1, .slice (some ⟨g, 0, none⟩) (i + 1) cap, oe') ⟨by omega, by rw [trnL_succ, List.flatMap_append]; simpa using hown1, fun x hx y hy => (Nat.lt_succ_iff_lt_or_eq.1 hx).elim (fun h => hU x h y hy) (fun h => by subst h; exact hK y (by omega))⟩ (by show n - (i + 1) < n - i; omega) ⟨rfl, rfl, rfl, rfl, rfl, trivial⟩ (List.Sublist.cons_cons _ (List.Sublist.cons _ (List.sublist_append_left _ _)))
    · have hall : n = i := by (have := df h2; omega)
      subst hall
      have hU2 : Uniq ((List.range n).map l) := uniq_of (fun x hx y hy => hU x hx y hy)
      refine cexit ?_
      refine nthenE ?_
      refine nIE ?_
      refine nblkE ?_
      refine nthen ?_
      refine cseq ?_
      refine cseq ?_
      refine creg ?_
      refine l1 (asgi rfl) ?_
      refine lnil ?_
      refine nthen ?_
      refine cblock ?_
      refine cloopI (σ := Nat × List Hd × List Ent) (fun s => [(1, .slice p n c), (3, .pointer (some ⟨b1, 0, none⟩)), (7, .slice rp n rc), (10, .int .i64 (s.1 : Int))]) (fun s => ([⟨b1, encV v, 24⟩] ++ (s.2.2))) (fun s => s.1 ≤ n + 1 ∧ s.2.1.Perm ((List.range n).map l) ∧ OwnL 37 125 (.slice rp n rc) n (s.2.1.flatMap encH) s.2.2) (fun s => n + 1 - s.1) (0, trnL l n a n, oe) ⟨Nat.zero_le _, trnL_perm l n a, hown⟩ ⟨rfl, rfl, rfl, rfl, trivial⟩ (List.Sublist.refl _) ?_
      rintro ⟨i, P, oe⟩ j ⟨hib, hP, hown⟩; replace hib : i ≤ n + 1 := hib; replace hP : P.Perm ((List.range n).map l) := hP; replace hown : OwnL 37 125 (.slice rp n rc) n (P.flatMap encH) oe := hown; have hPl : P.length = n := by rw [hP.length_eq, List.length_map, List.length_range]
      show WC _ _ _ (⟨b1, encV v, 24⟩ :: (oe)) _ _ (over j [(1, .slice p n c), (3, .pointer (some ⟨b1, 0, none⟩)), (7, .slice rp n rc), (10, .int .i64 (i : Int))])
      refine cseq ?_
      refine cseq ?_
      refine creg ?_
      refine l1 (mvi rfl) ?_
      first | refine l1 (addn rfl rfl (ri (by omega) (by omega))) ?_ | refine l1 (add rfl rfl) ?_
      refine l1 (mvs rfl) ?_
      refine l1 (lens sl54 rfl rfl) ?_
      refine l1 (lss rfl rfl) ?_
      refine lnil ?_
      refine nthen ?_
      refine cif rfl (fun h5 => ?_) (fun h5 => ?_)
      · have hlt : i + 1 < n := by (have := dt h5; omega)
        obtain ⟨g, cur, hpg, hoe, hcl⟩ := ownL_form hown (by omega)
        subst hoe
        subst hpg
        have hsl : SlIn [⟨g, cur, 37⟩] (some ⟨g, 0, none⟩) n 125 (fun i => encH (P.getD i hz)) := hown.slInL (fun a => rfl) (fun i hi => ⟨_, getD_get (by omega), rfl⟩)
        have hown1 := ownL_set (f := encH) (sz := 125) (fun a => rfl) hown hPl (i := i) (by omega) (P.getD (i + 1) hz)
        have hown2 := ownL_set (f := encH) (sz := 125) (fun a => rfl) hown1 (by rw [List.length_set]; exact hPl) (i := i + 1) (by omega) (P.getD i hz)
        refine cskip ?_
        refine nthen ?_
        refine cseq ?_
        refine cblock ?_
        refine cseq ?_
        refine creg ?_
        refine l1 (mvs rfl) ?_
        refine l1 (mvi rfl) ?_
        refine l1 (isp sl54 rfl rfl rfl (by omega) (by omega)) ?_
        refine l1 (ldam (vs := encH (P.getD i hz)) Try.isAgg37 Try.sizeOf37 rfl rfl (fun w' hw => by rw [show ((i : Int)).toNat = i from by omega]; exact SlIn_mem hsl rfl (hw.sub (List.Sublist.cons _ (List.Sublist.refl _))) (by omega))) ?_
        refine lal (zs := encH hz) Try.zeroValue37 rfl (fun b3 => ?_)
        refine wl_perm (ins_perm 1 _ _) ?_
        refine lstw 1 rfl rfl rfl Try.sizeOf37 rfl rfl rfl ?_
        refine lnil ?_
        refine nthen ?_
        refine cseq ?_
        refine creg ?_
        refine l1 (mvs rfl) ?_
        refine l1 (mvi rfl) ?_
        refine l1 (mvs rfl) ?_
        refine l1 (mvi rfl) ?_
        refine l1 (addn rfl rfl (ri (by omega) (by omega))) ?_
        refine l1 (isp sl54 rfl rfl rfl (by omega) (by omega)) ?_
        refine l1 (ldam (vs := encH (P.getD (i + 1) hz)) Try.isAgg37 Try.sizeOf37 rfl rfl (fun w' hw => by rw [show ((i : Int) + 1).toNat = i + 1 from by omega]; exact SlIn_mem hsl rfl (hw.sub (List.Sublist.cons _ (List.Sublist.cons _ (List.Sublist.refl _)))) (by omega))) ?_
        refine l1 (isp sl54 rfl rfl rfl (by omega) (by omega)) ?_
        refine lsta (cs' := cur.take (i * 125) ++ encH (P.getD (i + 1) hz) ++ cur.drop (i * 125 + 125)) 2 rfl rfl rfl Try.sizeOf37 rfl (by show 0 + i * 125 + 125 ≤ cur.length; omega) rfl (by rw [Nat.zero_add]; rfl) ?_
        refine lnil ?_
        refine nthen ?_
        refine creg ?_
        refine l1 (mvs rfl) ?_
        refine l1 (mvi rfl) ?_
        refine l1 (addn rfl rfl (ri (by omega) (by omega))) ?_
        refine l1 (ldw 1 Try.isAgg37 Try.sizeOf37 rfl rfl rfl) ?_
        refine l1 (isp sl54 rfl rfl rfl (by omega) (by omega)) ?_
        refine lsta (cs' := (cur.take (i * 125) ++ encH (P.getD (i + 1) hz) ++ cur.drop (i * 125 + 125)).take ((i + 1) * 125) ++ encH (P.getD i hz) ++ (cur.take (i * 125) ++ encH (P.getD (i + 1) hz) ++ cur.drop (i * 125 + 125)).drop ((i + 1) * 125 + 125)) 2 rfl rfl rfl Try.sizeOf37 rfl (by show 0 + (i + 1) * 125 + 125 ≤ (cur.take (i * 125) ++ encH (P.getD (i + 1) hz) ++ cur.drop (i * 125 + 125)).length; simp only [List.length_append, List.length_take, List.length_drop, encH_len]; omega) rfl (by rw [Nat.zero_add]; rfl) ?_
        refine lnil ?_
        refine nblkN ?_
        refine nthen ?_
        refine creg ?_
        refine l1 (mvi rfl) ?_
        first | refine l1 (addn rfl rfl (ri (by omega) (by omega))) ?_ | refine l1 (add rfl rfl) ?_
        refine l1 (asgi rfl) ?_
        refine lnil ?_
        exact nI (i + 2, ((P.set i (P.getD (i + 1) hz)).set (i + 1) (P.getD i hz)), [⟨g, _, 37⟩]) ⟨by show i + 2 ≤ n + 1; omega, (swap_perm hz P i (by omega)).trans hP, hown2⟩ (by show n + 1 - (i + 2) < n + 1 - i; omega) ⟨rfl, rfl, rfl, rfl, trivial⟩ (List.Sublist.cons_cons _ (List.Sublist.cons _ (List.Sublist.refl _)))
      · have hPx : ∀ q, q < n → HdIn w (P.getD q hz) ∧ HdOk (P.getD q hz) := fun q hq => by (obtain ⟨y, hy, he⟩ := List.mem_map.1 (hP.mem_iff.1 (getD_mem (O := P) (i := q) (by omega))); have := List.mem_range.1 hy; rw [← he]; exact ⟨hx y this, kx y this⟩)
        have hPm : (List.range n).map (fun i => P.getD i hz) = P := by rw [← hPl]; exact map_getD P
        refine cexit ?_
        refine nthenE ?_
        refine nIE ?_
        refine nblkE ?_
        refine nthen ?_
        refine cseq ?_
        refine creg ?_
        refine l1 (ldw 0 Try.isAgg24 Try.sizeOf24 rfl rfl rfl) ?_
        refine l1 (mvs rfl) ?_
        refine lclm hb45 rfl (mc rfl (mc rfl mn)) (fun w' hw => order_calls w' v _ _ _ _ hn40 (Sl.keptS hl hw) (fun i hi => Sl.keptS (hx i hi) hw) kx) ?_
        rintro r1 Hn1 ⟨⟨v1, O1, ov1, oe1, tl1⟩, rfl, rfl, hS1, hn1⟩
        obtain ⟨p1, c1, hov1⟩ := hS1.own.form
        obtain rfl : ov1 = .slice p1 O1.length c1 := hov1
        have hs1 := ord_slIn hS1
        have hlen1 := path_len hS1.path
        rw [List.length_map, List.length_range] at hlen1
        have hO1n : O1.length ≤ 30 := by (simp only at hlen1; omega)
        refine l1 (mv rfl) ?_
        refine l1 (ext (vs := [.slice p1 O1.length c1, .agg (encV v1).toArray]) rfl rfl) ?_
        refine l1 (ext (vs := [.slice p1 O1.length c1, .agg (encV v1).toArray]) rfl rfl) ?_
        refine lal (zs := encV (fun _ => 0)) Try.zeroValue24 rfl (fun b4 => ?_)
        refine wl_perm (ins_perm 1 _ _) ?_
        refine l1 (asg rfl) ?_
        refine lstw 1 rfl rfl rfl Try.sizeOf24 rfl rfl rfl ?_
        refine lnil ?_
        refine nthen ?_
        refine cseq ?_
        refine creg ?_
        refine l1 (ldw 0 Try.isAgg24 Try.sizeOf24 rfl rfl rfl) ?_
        refine l1 (mvs rfl) ?_
        refine lclm hb45 rfl (mc rfl (mc rfl mn)) (fun w' hw => order_calls w' v _ _ _ (fun i => P.getD i hz) hn40 (SlIn.sl (hown.slInL (fun a => rfl) (fun i hi => ⟨_, getD_get (by omega), rfl⟩)) (hw.sub (List.Sublist.cons _ (List.Sublist.cons _ (List.sublist_append_left oe _))))) (fun i hi => Sl.keptS (hPx i hi).1 hw) (fun i hi => (hPx i hi).2)) ?_
        rintro r2 Hn2 ⟨⟨v2, O2, ov2, oe2, tl2⟩, rfl, rfl, hS2, hn2⟩
        obtain ⟨p2, c2, hov2⟩ := hS2.own.form
        obtain rfl : ov2 = .slice p2 O2.length c2 := hov2
        rw [hPm] at hS2 hn2
        have hs2 := ord_slIn hS2
        have hpp := path_same (fun v => (pick_perm hP hU2 v).symm) hS2.path
        have hdet := path_det hS1.path hpp hn1 (by rw [pick_perm hP hU2]; exact hn2)
        simp only at hdet
        refine l1 (mv rfl) ?_
        refine l1 (ext (vs := [.slice p2 O2.length c2, .agg (encV v2).toArray]) rfl rfl) ?_
        refine l1 (ext (vs := [.slice p2 O2.length c2, .agg (encV v2).toArray]) rfl rfl) ?_
        refine lal (zs := encV (fun _ => 0)) Try.zeroValue24 rfl (fun b5 => ?_)
        refine wl_perm (ins_perm 2 _ _) ?_
        refine l1 (asg rfl) ?_
        refine lstw 2 rfl rfl rfl Try.sizeOf24 rfl rfl rfl ?_
        refine lnil ?_
        refine nthen ?_
        refine cseq ?_
        refine cseq ?_
        refine creg ?_
        refine l1 (ldw 1 Try.isAgg24 Try.sizeOf24 rfl rfl rfl) ?_
        refine l1 (ldw 2 Try.isAgg24 Try.sizeOf24 rfl rfl rfl) ?_
        refine l1 (neqa rfl rfl (fun w => neql24 _ _ w)) ?_
        refine l1 (mvb rfl) ?_
        refine l1g rfl (gwf rfl) (fun h => mvs rfl) ?_
        refine l1g rfl (gwf rfl) (fun h => lens sl54 rfl (gvt h)) ?_
        refine l1g rfl (gwf rfl) (fun h => mvs rfl) ?_
        refine l1g rfl (gwf rfl) (fun h => lens sl54 rfl (gvt h)) ?_
        refine l1g rfl (gwf rfl) (fun h => neq (gvt h) (gvt h)) ?_
        refine l1 (pk_or rfl rfl rfl) ?_
        refine lnil ?_
        refine nthen ?_
        refine ciff (bf rfl (by rw [hdet.1, hdet.2.1, eqV_refl]; simp)) ?_
        refine cskip ?_
        refine nthen ?_
        refine cseq ?_
        refine cseq ?_
        refine creg ?_
        refine l1 (asgi rfl) ?_
        refine lnil ?_
        refine nthen ?_
        refine cblock ?_
        refine cloopI (σ := Nat) (fun s => [(12, .slice p1 O1.length c1), (14, .slice p2 O2.length c2), (16, .int .i64 (s : Int))]) (fun s => ([] ++ ((oe1 ++ tl1) ++ (oe2 ++ tl2)))) (fun s => s ≤ O1.length) (fun s => O1.length - s) 0 (Nat.zero_le _) ⟨rfl, rfl, rfl, trivial⟩ ((List.Sublist.cons _ (List.Sublist.cons _ (List.Sublist.cons _ (show List.Sublist ((oe1 ++ tl1) ++ (oe2 ++ tl2)) ((oe ++ (oe1 ++ tl1)) ++ (oe2 ++ tl2)) from List.Sublist.append_right (List.sublist_append_right oe _) _))))) ?_
        rintro i j hi
        show WC _ _ _ (((oe1 ++ tl1) ++ (oe2 ++ tl2))) _ _ (over j [(12, .slice p1 O1.length c1), (14, .slice p2 O2.length c2), (16, .int .i64 (i : Int))])
        replace hi : i ≤ O1.length := hi
        refine cseq ?_
        refine cseq ?_
        refine creg ?_
        refine l1 (mvi rfl) ?_
        refine l1 (mvs rfl) ?_
        refine l1 (lens sl54 rfl rfl) ?_
        refine l1 (lss rfl rfl) ?_
        refine lnil ?_
        refine nthen ?_
        refine cif rfl (fun h6 => ?_) (fun h6 => ?_)
        · have hlt : i < O1.length := by (have := dt h6; omega)
          have hlt2 : i < O2.length := by (rw [← hdet.2.1]; exact hlt)
          obtain ⟨bo, hp1⟩ := SlIn_some hs1 hlt
          obtain ⟨bo2, hp2⟩ := SlIn_some hs2 hlt2
          obtain ⟨htk, hko⟩ := hS1.tok _ (getD_mem hlt)
          obtain ⟨htk2, hko2⟩ := hS2.tok _ (getD_mem hlt2)
          have hc := hdet.2.2 i _ _ (getD_get hlt) (getD_get hlt2)
          refine cskip ?_
          refine nthen ?_
          refine cseq ?_
          refine cblock ?_
          refine cseq ?_
          refine cregq mo (by kernel_rfl) ?_
          refine q1 (mvs rfl) ?_
          refine q1 (mvi rfl) ?_
          refine q1 (isp sl54 hp1 rfl rfl (by omega) (by omega)) ?_
          refine q1 (ldam (vs := encH (O1.getD i hz)) Try.isAgg37 Try.sizeOf37 rfl rfl (fun w' hw => SlIn_mem hs1 hp1 (hw.sub (List.Sublist.trans (List.sublist_append_left oe1 tl1) (List.sublist_append_left _ _))) hlt)) ?_
          refine q1 (mvs rfl) ?_
          refine q1 (mvi rfl) ?_
          refine q1 (isp sl54 hp2 rfl rfl (by omega) (by omega)) ?_
          refine q1 (ldam (vs := encH (O2.getD i hz)) Try.isAgg37 Try.sizeOf37 rfl rfl (fun w' hw => SlIn_mem hs2 hp2 (hw.sub (List.Sublist.trans (List.sublist_append_left oe2 tl2) (List.sublist_append_right _ _))) hlt2)) ?_
          refine q1 (cl hb47 rfl (mc rfl (mc rfl mn)) (fun w hw => sameH_calls _ _ w (SlIn.sl htk (hw.sub (List.Sublist.trans (List.sublist_append_right oe1 tl1) (List.sublist_append_left _ _)))) (SlIn.sl htk2 (hw.sub (List.Sublist.trans (List.sublist_append_right oe2 tl2) (List.sublist_append_right _ _)))) hko)) ?_
          refine q1 (nt rfl) ?_
          refine qnil ?_
          refine nthen ?_
          refine ciff (bf rfl (by rw [same_core hc]; rfl)) ?_
          refine cskip ?_
          refine nblkN ?_
          refine nthen ?_
          refine creg ?_
          refine l1 (mvi rfl) ?_
          first | refine l1 (addn rfl rfl (ri (by omega) (by omega))) ?_ | refine l1 (add rfl rfl) ?_
          refine l1 (asgi rfl) ?_
          refine lnil ?_
          exact nI (i + 1) (by show i + 1 ≤ O1.length; omega) (by show O1.length - (i + 1) < O1.length - i; omega) ⟨rfl, rfl, rfl, trivial⟩ (List.Sublist.refl _)
        · skip
          refine cexit ?_
          refine nthenE ?_
          refine nIE ?_
          refine nblkE ?_
          refine nthen ?_
          refine cseq ?_
          refine creg ?_
          refine l1 (asgb rfl) ?_
          refine lnil ?_
          refine nthen ?_
          refine cret ?_
          exact fin1 rfl rfl

theorem turnedN (v : Vec) (a : Int) (ha : 0 ≤ a ∧ a ≤ 255) (w : World) (p : Option Addr) (n c : Nat) (l : Nat → Hd) (hn : (n : Int) ≤ 9223372036854775807) (hl : Sl w p n 125 (fun i => encH (l i))) (hx : ∀ i, i < n → HdIn w (l i)) (kx : ∀ i, i < n → HdOk (l i)) : Calls Try.prog 13 #[.agg (encV v).toArray, .slice p n c, .int .u8 a] w (Ret (.bool true) w) := by
  have h := turned_law v a.toNat (by omega) w p n c l hn hl hx kx
  rwa [Int.toNat_of_nonneg ha.1] at h
end Go.Proofs.Ytkdbjhlkahkobaa
