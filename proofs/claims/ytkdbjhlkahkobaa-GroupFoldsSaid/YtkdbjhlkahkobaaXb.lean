/- walks, printed by a program of ours -/
import Derived.Test.YtkdbjhlkahkobaaTy
import Derived.Test.YtkdbjhlkahkobaaDef
import Derived.Test.YtkdbjhlkahkobaaXa
import Derived.Test.YtkdbjhlkahkobaaMem3
namespace Go.Proofs.Ytkdbjhlkahkobaa
open Jal Go.RowKit
set_option maxRecDepth 100000
def gAt (xs : Nat → Hd) (ys : Nat → Ct) : Nat → Grp
  | 0 => zeroG
  | k + 1 => (appG (gAt xs ys k) (xs k) (ys k)).1
def okAt (xs : Nat → Hd) (ys : Nat → Ct) (k : Nat) : Prop := (appG (gAt xs ys k) (xs k) (ys k)).2 = 0
structure StopAt (xs : Nat → Hd) (ys : Nat → Ct) (n m K : Nat) : Prop where
  ok : ∀ j, j < K → okAt xs ys j
  hn : K ≤ n
  hm : K ≤ m
  stop : K = n ∨ K = m ∨ ¬ okAt xs ys K
theorem StopAt.eq {xs : Nat → Hd} {ys : Nat → Ct} {n m K K' : Nat} (h : StopAt xs ys n m K) (h' : StopAt xs ys n m K') : K = K' := by
  rcases Nat.lt_trichotomy K K' with hlt | he | hlt
  · have := h'.ok K hlt; have := h'.hn; have := h'.hm
    rcases h.stop with h1 | h1 | h1
    · omega
    · omega
    · exact absurd (h'.ok K hlt) h1
  · exact he
  · have := h.hn; have := h.hm
    rcases h'.stop with h1 | h1 | h1
    · omega
    · omega
    · exact absurd (h.ok K' hlt) h1
theorem gAt_congr {xs : Nat → Hd} {ys ys' : Nat → Ct} : ∀ (k : Nat), (∀ j, j < k → ys j = ys' j) → gAt xs ys k = gAt xs ys' k
  | 0, _ => rfl
  | k + 1, h => by
    show (appG (gAt xs ys k) (xs k) (ys k)).1 = (appG (gAt xs ys' k) (xs k) (ys' k)).1
    rw [gAt_congr k (fun j hj => h j (by omega)), h k (by omega)]
theorem okAt_congr {xs : Nat → Hd} {ys ys' : Nat → Ct} {k : Nat} (h : ∀ j, j ≤ k → ys j = ys' j) : okAt xs ys k ↔ okAt xs ys' k := by
  unfold okAt
  rw [gAt_congr k (fun j hj => h j (by omega)), h k (Nat.le_refl _)]
def FoldR (xs : Nat → Hd) (ys : Nat → Ct) (n m : Nat) (v : Value) (Hn : List Ent) : Prop := ∃ K, StopAt xs ys n m K ∧ v = .tuple #[.agg (encG (gAt xs ys K)).toArray, .int .i64 (K : Int)] ∧ Hn = []

set_option maxHeartbeats 1000000 in
theorem fold_calls (w : World) (p1 : Option Addr) (n c1 : Nat) (xs : Nat → Hd) (hn : (n : Int) ≤ 9223372036854775807) (hl : Sl w p1 n 125 (fun i => encH (xs i))) (hx : ∀ i, i < n → HdIn w (xs i)) (kx : ∀ i, i < n → HdOk (xs i)) (p2 : Option Addr) (m c2 : Nat) (ys : Nat → Ct) (hk : Sl w p2 m 10 (fun i => encC (ys i))) (ky : ∀ i, i < m → CtOk (ys i)) : Calls Try.prog 46 #[.slice p1 n c1, .slice p2 m c2] w (RetM (FoldR xs ys n m) w) := by
  refine fn_calls (n := 43) Try.func46 rfl rfl (lb rfl) ?_
  refine cseq ?_
  refine creg ?_
  refine lal (zs := encG zeroG) Try.zeroValue43 rfl (fun b1 => ?_)
  refine l1 (asgi rfl) ?_
  refine lnil ?_
  refine nthen ?_
  refine cseq ?_
  refine creg ?_
  refine lal (zs := encG zeroG) Try.zeroValue43 rfl (fun b2 => ?_)
  refine lnil ?_
  refine nthen ?_
  refine cseq ?_
  refine cseq ?_
  refine creg ?_
  refine l1 (mvs rfl) ?_
  refine l1 (lens sl54 rfl rfl) ?_
  refine l1 (mvi rfl) ?_
  refine lnil ?_
  refine nthen ?_
  refine cblock ?_
  refine cloopI (σ := Nat) (fun s => [(0, .slice p1 n c1), (1, .slice p2 m c2), (4, .pointer (some ⟨b1, 0, none⟩)), (6, .pointer (some ⟨b2, 0, none⟩)), (11, .slice p1 n c1), (12, .int .i64 (n : Int)), (13, .int .i64 (s : Int))]) (fun s => [⟨b1, encG zeroG, 43⟩, ⟨b2, encG (gAt xs ys s), 43⟩]) (fun s => s ≤ n ∧ s ≤ m ∧ ∀ j, j < s → okAt xs ys j) (fun s => n - s) 0 ⟨Nat.zero_le _, Nat.zero_le _, fun j hj => by omega⟩ ⟨rfl, rfl, rfl, rfl, rfl, rfl, rfl, trivial⟩ (List.Sublist.refl _) ?_
  rintro k j ⟨hkn, hkm, hok⟩; replace hkn : k ≤ n := hkn; replace hkm : k ≤ m := hkm
  show WC _ _ _ ([⟨b1, encG zeroG, 43⟩, ⟨b2, encG (gAt xs ys k), 43⟩]) _ _ (over j [(0, .slice p1 n c1), (1, .slice p2 m c2), (4, .pointer (some ⟨b1, 0, none⟩)), (6, .pointer (some ⟨b2, 0, none⟩)), (11, .slice p1 n c1), (12, .int .i64 (n : Int)), (13, .int .i64 (k : Int))])
  refine cseq ?_
  refine creg ?_
  refine l1 (lss rfl rfl) ?_
  refine lnil ?_
  refine nthen ?_
  refine cseq ?_
  refine cif rfl (fun h1 => ?_) (fun h1 => ?_)
  · have hlt : k < n := by (have := dt h1; omega)
    refine cskip ?_
    refine nthen ?_
    refine cseq ?_
    refine cblock ?_
    refine cseq ?_
    refine creg ?_
    refine l1 (mvi rfl) ?_
    refine l1 (isp sl54 (hl.hp hlt) rfl rfl (by omega) (by omega)) ?_
    refine l1 (ldam (vs := encH (xs k)) Try.isAgg37 Try.sizeOf37 rfl rfl (fun w' hw => hl.memP hlt hw.below)) ?_
    refine lal (zs := encH hz) Try.zeroValue37 rfl (fun b3 => ?_)
    refine l1 (asgi rfl) ?_
    refine lstw 2 rfl rfl rfl Try.sizeOf37 rfl rfl rfl ?_
    refine lnil ?_
    refine nthen ?_
    refine cseq ?_
    refine cseq ?_
    refine creg ?_
    refine l1 (mvi rfl) ?_
    refine l1 (mvs rfl) ?_
    refine l1 (lens sl55 rfl rfl) ?_
    refine l1 (eql rfl rfl) ?_
    refine lnil ?_
    refine nthen ?_
    refine cif rfl (fun h2 => ?_) (fun h2 => ?_)
    · have hkm2 : k = m := by (have := dt h2; omega)
      refine cseq ?_
      refine creg ?_
      refine l1 (ldw 1 Try.isAgg43 Try.sizeOf43 rfl rfl rfl) ?_
      refine l1 (mvi rfl) ?_
      refine lstw 0 rfl rfl rfl Try.sizeOf43 rfl rfl rfl ?_
      refine l1 (asgi rfl) ?_
      refine lnil ?_
      refine nthen ?_
      refine cret ?_
      refine nthenR ?_
      refine nblkR ?_
      refine nthenR ?_
      refine nIR ?_
      refine nblkR ?_
      refine nthenR ?_
      exact finM (.tuple #[.agg (encG (gAt xs ys k)).toArray, .int .i64 (k : Int)]) [] (rv2 rfl (rvc 0 Try.isAgg43 Try.sizeOf43 rfl rfl rfl rfl) (rvt rfl)) ⟨[], List.Perm.refl _, List.nil_sublist _⟩ ⟨k, ⟨hok, hkn, hkm, .inr (.inl hkm2)⟩, rfl, rfl⟩
    · have hkm3 : k < m := by (have := df h2; omega)
      refine cskip ?_
      refine nthen ?_
      refine cseq ?_
      refine cregE1 (Eff.mk 10 9 43 [.int .i64 0, .int .i64 0, .bool false, .bool false, .bool false, .bool false, .bool false, .bool false, .bool false, .bool false, .bool false, .bool false, .bool false, .bool false, .int .u64 0, .int .u64 0, .int .u64 0, .int .u64 0, .int .u64 0, .int .u64 0, .int .i64 0] 11 (.tmp 32) (encG (appG (gAt xs ys k) (xs k) (ys k)).1)) mo (by kernel_rfl) (by kernel_rfl) ⟨⟨_, _, _, rfl⟩, ⟨_, _, _, rfl, af_any (by kernel_rfl)⟩, ⟨_, Try.zeroValue43, rfl⟩, Try.sizeOf43, rfl, oneA rfl⟩ (by kernel_rfl) (by kernel_rfl) (by kernel_rfl) (by kernel_rfl) rfl ?_
      refine t1 rfl (fun T => ldw 1 Try.isAgg43 Try.sizeOf43 rfl rfl rfl) ?_
      refine t1 rfl (fun T => ldw 2 Try.isAgg37 Try.sizeOf37 rfl rfl rfl) ?_
      refine t1 rfl (fun T => mvs rfl) ?_
      refine t1 rfl (fun T => mvi rfl) ?_
      refine t1 rfl (fun T => isp sl55 (hk.hp hkm3) rfl rfl (by omega) (by omega)) ?_
      refine t1 rfl (fun T => ldam (vs := encC (ys k)) Try.isAgg59 Try.sizeOf59 rfl rfl (fun w' hw => hk.memP hkm3 hw.below)) ?_
      refine t1 rfl (fun T => cl hb42 rfl (mc rfl (mc rfl (mc rfl mn))) (fun w' hw => apply_calls _ _ _ w' (Sl.keptS (hx k hlt) hw) (kx k hlt) (ky k hkm3))) ?_
      refine t1 rfl (fun T => mv rfl) ?_
      refine t1 rfl (fun T => ext (vs := [_, _]) rfl rfl) ?_
      refine t1 rfl (fun T => ext (vs := [_, _]) rfl rfl) ?_
      refine te 0 rfl rfl ?_
      refine ts 0 rfl rfl rfl ?_
      refine t1 rfl (fun T => asgi rfl) ?_
      refine tnil ?_
      intro b4
      refine nthen ?_
      refine cseq ?_
      refine cseq ?_
      refine creg ?_
      refine l1 (mvi rfl) ?_
      refine l1 (neq rfl rfl) ?_
      refine lnil ?_
      refine nthen ?_
      refine cif rfl (fun h3 => ?_) (fun h3 => ?_)
      · have hnk : ¬ okAt xs ys k := (fun hc => (dt h3) hc)
        refine cseq ?_
        refine creg ?_
        refine l1 (ldw 1 Try.isAgg43 Try.sizeOf43 rfl rfl rfl) ?_
        refine l1 (mvi rfl) ?_
        refine lstw 0 rfl rfl rfl Try.sizeOf43 rfl rfl rfl ?_
        refine l1 (asgi rfl) ?_
        refine lnil ?_
        refine nthen ?_
        refine cret ?_
        refine nthenR ?_
        refine nblkR ?_
        refine nthenR ?_
        refine nIR ?_
        refine nblkR ?_
        refine nthenR ?_
        exact finM (.tuple #[.agg (encG (gAt xs ys k)).toArray, .int .i64 (k : Int)]) [] (rv2 rfl (rvc 0 Try.isAgg43 Try.sizeOf43 rfl rfl rfl rfl) (rvt rfl)) ⟨[], List.Perm.refl _, List.nil_sublist _⟩ ⟨k, ⟨hok, hkn, hkm, .inr (.inr hnk)⟩, rfl, rfl⟩
      · have hek : okAt xs ys k := df2 h3
        refine cskip ?_
        refine nthen ?_
        refine creg ?_
        refine l1 (ldw 3 Try.isAgg43 Try.sizeOf43 rfl rfl rfl) ?_
        refine lstw 1 rfl rfl rfl Try.sizeOf43 rfl rfl rfl ?_
        refine lnil ?_
        refine nblkN ?_
        refine nthen ?_
        refine creg ?_
        first | refine l1 (addn rfl rfl (ri (by omega) (by omega))) ?_ | refine l1 (add rfl rfl) ?_
        refine l1 (mvi rfl) ?_
        refine lnil ?_
        exact nI (k + 1) ⟨by omega, by omega, fun q hq => (Nat.lt_succ_iff_lt_or_eq.1 hq).elim (fun h => hok q h) (fun h => by subst h; exact hek)⟩ (by show n - (k + 1) < n - k; omega) ⟨rfl, rfl, rfl, rfl, rfl, rfl, rfl, trivial⟩ (List.Sublist.cons_cons _ (List.Sublist.cons_cons _ (List.nil_sublist _)))
  · have hall : k = n := by (have := df h1; omega)
    refine cexit ?_
    refine nthenE ?_
    refine nIE ?_
    refine nblkE ?_
    refine nthen ?_
    refine cseq ?_
    refine creg ?_
    refine l1 (ldw 1 Try.isAgg43 Try.sizeOf43 rfl rfl rfl) ?_
    refine l1 (mvs rfl) ?_
    refine l1 (lens sl54 rfl rfl) ?_
    refine lstw 0 rfl rfl rfl Try.sizeOf43 rfl rfl rfl ?_
    refine l1 (asgi rfl) ?_
    refine lnil ?_
    refine nthen ?_
    refine cret ?_
    exact finM (.tuple #[.agg (encG (gAt xs ys k)).toArray, .int .i64 (k : Int)]) [] (rv2 rfl (rvc 0 Try.isAgg43 Try.sizeOf43 rfl rfl rfl rfl) (rvt (by rw [hall]; rfl))) ⟨[], List.Perm.refl _, List.nil_sublist _⟩ ⟨k, ⟨hok, hkn, hkm, .inl hall⟩, rfl, rfl⟩
end Go.Proofs.Ytkdbjhlkahkobaa
