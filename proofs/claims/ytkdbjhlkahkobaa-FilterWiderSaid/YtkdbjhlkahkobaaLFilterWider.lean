/- FilterWider holds: whatever the arguments are, the call returns true and leaves what was there. -/
import Derived.Test.YtkdbjhlkahkobaaRows
import Derived.Test.YtkdbjhlkahkobaaZi
import Derived.Test.YtkdbjhlkahkobaaZj
import Derived.Test.YtkdbjhlkahkobaaFFilterWider
import Derived.ProofKit
import Derived.OpenShut
import Derived.ShutString
import Derived.ChangeOld
import Derived.Below
import Derived.Carry
namespace Go.Proofs.Ytkdbjhlkahkobaa.pFilterWider
open Jal Go.RowKit Go.ChangeShapes Go.WideShapes Go.ChangeAt
set_option linter.unusedVariables false
set_option maxRecDepth 100000
theorem own : ownKnob Try.prog.godebug = none := by kernel_rfl
theorem laidOut : laidOutB Try.prog = true := by kernel_rfl
theorem lifted (os : Os) (started : os.Started) (H : Type) (enc : TypeId × Value → H) :
    ReturnsInHanded {} Try.checked os 20 .any (Rows.filterWiderSpec.pre6 enc Try.prog Try.f20 Rows.filterWiderRow.domain false) (Rows.filterWiderSpec.post enc Try.prog Try.f20 false true false false) := by
  refine returnsInHanded_of_change (C := Try.checked) own started (by kernel_rfl) Try.func20
    (ChangeSpec.witness6 (enc := enc) (C := Try.checked) false ⟨#[], #[.agg #[.bool false, .slice none 0 0], .agg #[.bool false, .slice none 0 0], .slice none 0 0], []⟩ 40 (by kernel_rfl) (by kernel_rfl) (by kernel_rfl) (by kernel_rfl)) ?_
  intro W base args ds gs before hval0 hW hcnd _
  have hval : ∀ (j : Nat) t v, Try.f20.params[j]? = some t → args[j]? = some v → Value.okWide Try.prog W .any base t v := hval0
  have hW' := hW
  obtain ⟨p, q, hA0, hV, rfl, hfz, hnd⟩ := hW
  have hA : DataW.TrodAll enc Try.prog W 0 (fun _ => true) true Try.f20.params.toList args.toList ds p := hA0
  rw [Try.params20] at hA hval
  obtain ⟨v0, vs0, d0, ds0, p0, q0, hargs, rfl, rfl, g0, r0⟩ := trodAll_cons hA
  obtain ⟨v1, vs1, d1, ds1, p1, q1, rfl, rfl, rfl, g1, r1⟩ := trodAll_cons r0
  obtain ⟨v2, vs2, d2, ds2, p2, q2, rfl, rfl, rfl, g2, r2⟩ := trodAll_cons r1
  obtain ⟨rfl, rfl, rfl⟩ := trodAll_nil r2
  obtain rfl : args = #[v0, v1, v2] := by cases args; simp_all
  obtain ⟨rfl, rfl⟩ := trodVars_none hV
  have k0 := g0
  have lt0 : ∀ x ∈ p0, x.block < W.heap.size := by obtain ⟨m, hm⟩ := k0; exact DataW.trod_lt m _ _ _ hm
  have e0 := Dec.of_trod g0
  have k1 := g1
  have lt1 : ∀ x ∈ p1, x.block < W.heap.size := by obtain ⟨m, hm⟩ := k1; exact DataW.trod_lt m _ _ _ hm
  have e1 := Dec.of_trod g1
  have k2 := g2
  have lt2 : ∀ x ∈ p2, x.block < W.heap.size := by obtain ⟨m, hm⟩ := k2; exact DataW.trod_lt m _ _ _ hm
  have e2 := Dec.of_trod g2
  obtain ⟨a0, rfl, m0, u0⟩ := open96 (hval 0 96 v0 rfl rfl) e0
  obtain ⟨a1, rfl, m1, u1⟩ := open96 (hval 1 96 v1 rfl rfl) e1
  obtain ⟨a2, len2, cap2, rfl⟩ := okWide_slice Try.underlying74 (hval 2 74 v2 rfl rfl)
  obtain ⟨hn2, l2, sl2, ok2⟩ := Dec.slice (en := encR) (ok := fun r => RwIn W r ∧ RwOk r) e2 Try.underlying74 cells79 (by decide) (fun cs h => dec79 h)
  refine (fwider_law W a0 a1 m0 u0 m1 u1 a2 len2 cap2 l2 hn2 sl2 (fun i hi => (ok2 i hi).1) (fun i hi => (ok2 i hi).2)).mono fun e W' ⟨he, bel⟩ => ?_
  subst he
  exact ⟨_, rfl, _, _, _, [], _, [], hW', trodAll_mk1 (shut_bool Try.underlying4 _), (trodAll_cons_mk (Below.trod laidOut (by kernel_rfl) (of_decide_eq_true (by kernel_rfl)) k0 bel lt0) (trodAll_cons_mk (Below.trod laidOut (by kernel_rfl) (of_decide_eq_true (by kernel_rfl)) k1 bel lt1) (trodAll_cons_mk (Below.trod laidOut (by kernel_rfl) (of_decide_eq_true (by kernel_rfl)) k2 bel lt2) trodAll_mk0))), rfl, bel.frame _, fun h => by cases h⟩
theorem hfn : Try.pinned.checked.prog.funcNamed Rows.filterWiderRow.func = some 20 := by kernel_rfl
theorem an {a b : Bool} (h : a = true) (k : b = true) : (a && b) = true := by rw [h, k]; rfl
theorem facts : joinedFacts Try.pinned.checked.prog 20 Try.f20 Rows.filterWiderSpec Rows.filterWiderRow = true := by
  unfold joinedFacts
  exact (an (an (an (an (an (an (an (an (an (an (an (an (an (an (an (an (an (an (an (an (an (an (an (an (an (an (an (an (an (an (an fact0 fact1) fact2) fact3) fact4) fact5) fact6) fact7) fact8) fact9) fact10) fact11) fact12) fact13) fact14) fact15) fact16) fact17) fact18) fact19) fact20) fact21) fact22) fact23) fact24) fact25) fact26) fact27) fact28) fact29) fact30) fact31)
theorem inst : Try.f20.isInstance Try.pinned.checked.prog Rows.filterWiderRow.origin Rows.filterWiderRow.targs := of_decide_eq_true (by kernel_rfl)
theorem nomain : ¬ Check.packageOf Try.f20.name = "main" := of_decide_eq_false (by kernel_rfl)
theorem wrap : Try.f20.isWrapper Try.pinned.checked.prog Rows.filterWiderRow.wrapper Rows.filterWiderRow.mainSum := by
  unfold Func.isWrapper
  rw [if_neg nomain]
  exact ⟨rfl, rfl⟩
theorem holds : Rows.filterWiderRow.holds Try.pinned (OpenSpec.ofChange Rows.filterWiderSpec) :=
  OpenClaim.holds_of_wide 20 Try.f20 rfl rfl rfl rfl rfl rfl rfl ⟨rfl, rfl, rfl, rfl, rfl⟩ rfl rfl rfl rfl rfl hfn Try.func20 facts inst wrap
    (fun os started H enc _ => lifted os started H enc)
theorem proved : Rows.FilterWiderSaid := holds
end Go.Proofs.Ytkdbjhlkahkobaa.pFilterWider
