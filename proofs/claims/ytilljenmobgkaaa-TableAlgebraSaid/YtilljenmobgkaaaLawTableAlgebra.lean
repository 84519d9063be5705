/- The statement TableAlgebra holds: called with any arguments that can be read as data, the law returns true and does not panic. No condition beyond the given row's own. -/
-- Written by wip/tools/rowgen.py, a program of this session's: the row, out of <Name>PureTableAlgebra and the printed walk.
import Derived.Test.YtilljenmobgkaaaRows
import Derived.Test.YtilljenmobgkaaaA8
import Derived.Test.YtilljenmobgkaaaRow
import Derived.Test.YtilljenmobgkaaaPureTableAlgebra
import Derived.WalkKit
import Derived.ProofKit
import Derived.OpenShut
import Derived.ShutString
import Derived.ChangeOld
import Derived.Below
import Derived.SizedLaws
namespace Go.Proofs.Ytilljenmobgkaaa.tableAlgebra
open Go.ChangeShapes Go.WideShapes Go.ChangeAt Go.RowKit Go.Proofs.YtilljenmobgkaaaW.PrintWords Go.Proofs.Ytilljenmobgkaaa.A
open Go.ChangeMaps (open_string shut_string)
set_option linter.unusedVariables false
theorem own : ownKnob Try.prog.godebug = none := by kernel_rfl
theorem laidOut : laidOutB Try.prog = true := by kernel_rfl
set_option maxRecDepth 100000 in
theorem lifted (os : Os) (started : os.Started) (H : Type) (enc : TypeId × Value → H) :
    ReturnsInHanded {} Try.checked os 3 .any (Rows.tableAlgebraSpec.pre6 enc Try.prog Try.f3 Rows.tableAlgebraRow.domain false) (Rows.tableAlgebraSpec.post enc Try.prog Try.f3 false true false false) := by
  refine returnsInHanded_of_change_sized (C := Try.checked) own started (by kernel_rfl) Try.func3
    (ChangeSpec.witness6 (enc := enc) (C := Try.checked) false ⟨#[], #[.agg #[.int .u32 0, .int .u64 0], .agg #[.int .u32 0, .int .u64 0], .agg #[.int .u32 0, .int .u64 0]], []⟩ 8 (by kernel_rfl) (by kernel_rfl) (by kernel_rfl) (by kernel_rfl)) ?_
  intro W base args ds gs before hval0 hW hcnd hsz0 _
  have hval : ∀ (j : Nat) t v, Try.f3.params[j]? = some t → args[j]? = some v → Value.okWide Try.prog W .any base t v := hval0
  have hW' := hW
  obtain ⟨p, q, hA0, hV, rfl, hfz, hnd⟩ := hW
  have hA : DataW.TrodAll enc Try.prog W 0 (fun _ => true) true Try.f3.params.toList args.toList ds p := hA0
  rw [Try.params3] at hA hval
  obtain ⟨v0, vs0, d0, ds0, p0, q0, hargs, rfl, rfl, h0, r0⟩ := trodAll_cons hA
  obtain ⟨v1, vs1, d1, ds1, p1, q1, rfl, rfl, rfl, h1, r1⟩ := trodAll_cons r0
  obtain ⟨v2, vs2, d2, ds2, p2, q2, rfl, rfl, rfl, h2, r2⟩ := trodAll_cons r1
  obtain ⟨rfl, rfl, rfl⟩ := trodAll_nil r2
  obtain rfl : args = #[v0, v1, v2] := by cases args; simp_all
  obtain ⟨rfl, rfl⟩ := trodVars_none hV
  have k0 := h0
  have lt0 : ∀ x ∈ p0, x.block < W.heap.size := by obtain ⟨m, hm⟩ := k0; exact DataW.trod_lt m _ _ _ hm
  obtain ⟨fuel0, hf0⟩ := h0
  obtain ⟨cs0, rfl, hz0⟩ := okWide_struct Try.underlying25 (hval 0 25 v0 rfl rfl)
  obtain ⟨g0, hK0, w0⟩ := (opens_struct (d := (Kd.pair (Kd.int .u32) (Kd.int .u64))) Try.underlying25 rfl (by kernel_rfl) (opensF_cons rfl (by kernel_rfl) (opens_int Try.underlying22) (opensF_one rfl (by kernel_rfl) (opens_int Try.underlying23)))) _ _ _ _ _ _ _ _ hf0
  obtain ⟨a0_0, a0_1⟩ := g0
  obtain ⟨e0_0, r0_0, hcs0_0, hk0_0, hn0_0⟩ := hK0
  have he0_0 := hk0_0
  have he0_1 := hn0_0
  obtain rfl : cs0 = #[.int .u32 a0_0, .int .u64 a0_1] := by
    have hcs : cs0.toList = (#[.int .u32 a0_0, .int .u64 a0_1] : Array Value).toList := by
      have h_ : cs0.toList = _ := hcs0_0
      rw [h_, he0_0, he0_1]
      try rfl
    cases cs0; simpa using hcs
  have k1 := h1
  have lt1 : ∀ x ∈ p1, x.block < W.heap.size := by obtain ⟨m, hm⟩ := k1; exact DataW.trod_lt m _ _ _ hm
  obtain ⟨fuel1, hf1⟩ := h1
  obtain ⟨cs1, rfl, hz1⟩ := okWide_struct Try.underlying25 (hval 1 25 v1 rfl rfl)
  obtain ⟨g1, hK1, w1⟩ := (opens_struct (d := (Kd.pair (Kd.int .u32) (Kd.int .u64))) Try.underlying25 rfl (by kernel_rfl) (opensF_cons rfl (by kernel_rfl) (opens_int Try.underlying22) (opensF_one rfl (by kernel_rfl) (opens_int Try.underlying23)))) _ _ _ _ _ _ _ _ hf1
  obtain ⟨a1_0, a1_1⟩ := g1
  obtain ⟨e1_0, r1_0, hcs1_0, hk1_0, hn1_0⟩ := hK1
  have he1_0 := hk1_0
  have he1_1 := hn1_0
  obtain rfl : cs1 = #[.int .u32 a1_0, .int .u64 a1_1] := by
    have hcs : cs1.toList = (#[.int .u32 a1_0, .int .u64 a1_1] : Array Value).toList := by
      have h_ : cs1.toList = _ := hcs1_0
      rw [h_, he1_0, he1_1]
      try rfl
    cases cs1; simpa using hcs
  have k2 := h2
  have lt2 : ∀ x ∈ p2, x.block < W.heap.size := by obtain ⟨m, hm⟩ := k2; exact DataW.trod_lt m _ _ _ hm
  obtain ⟨fuel2, hf2⟩ := h2
  obtain ⟨cs2, rfl, hz2⟩ := okWide_struct Try.underlying25 (hval 2 25 v2 rfl rfl)
  obtain ⟨g2, hK2, w2⟩ := (opens_struct (d := (Kd.pair (Kd.int .u32) (Kd.int .u64))) Try.underlying25 rfl (by kernel_rfl) (opensF_cons rfl (by kernel_rfl) (opens_int Try.underlying22) (opensF_one rfl (by kernel_rfl) (opens_int Try.underlying23)))) _ _ _ _ _ _ _ _ hf2
  obtain ⟨a2_0, a2_1⟩ := g2
  obtain ⟨e2_0, r2_0, hcs2_0, hk2_0, hn2_0⟩ := hK2
  have he2_0 := hk2_0
  have he2_1 := hn2_0
  obtain rfl : cs2 = #[.int .u32 a2_0, .int .u64 a2_1] := by
    have hcs : cs2.toList = (#[.int .u32 a2_0, .int .u64 a2_1] : Array Value).toList := by
      have h_ : cs2.toList = _ := hcs2_0
      rw [h_, he2_0, he2_1]
      try rfl
    cases cs2; simpa using hcs
  clear hA0 hval0 hsz0
  obtain ⟨k, hk⟩ := Pure.TableAlgebra a0_0 a0_1 a1_0 a1_1 a2_0 a2_1 w0.1 w0.2 w1.1 w1.2 w2.1 w2.2
  refine (A.ancepslaw38_TableAlgebra.calls k a0_0 a0_1 a1_0 a1_1 a2_0 a2_1 true W  hk).mono fun e W' ⟨he, bel⟩ => ?_
  subst he
  exact ⟨_, rfl, _, _, _, [], _, [], hW', trodAll_mk1 (shut_bool Try.underlying4 _), (trodAll_cons_mk (Below.trod laidOut (by kernel_rfl) (of_decide_eq_true (by kernel_rfl)) k0 bel lt0) (trodAll_cons_mk (Below.trod laidOut (by kernel_rfl) (of_decide_eq_true (by kernel_rfl)) k1 bel lt1) (trodAll_cons_mk (Below.trod laidOut (by kernel_rfl) (of_decide_eq_true (by kernel_rfl)) k2 bel lt2) trodAll_mk0))), rfl, bel.frame _, fun h => by cases h⟩
theorem over : Rows.tableAlgebraRow.holds Try.pinned (OpenSpec.ofChange Rows.tableAlgebraSpec) :=
  OpenClaim.holds_of_wide 3 Try.f3 rfl rfl rfl rfl rfl rfl rfl ⟨rfl, rfl, rfl, rfl, rfl⟩ rfl rfl rfl rfl rfl (by kernel_rfl) Try.func3 (by kernel_rfl)
    (of_decide_eq_true (by kernel_rfl)) (by unfold Func.isWrapper; first | (rw [if_pos (by decide +kernel)]; kernel_rfl) | (rw [if_neg (by decide +kernel)]; exact ⟨rfl, rfl⟩))
    (fun os started H enc _ => lifted os started H enc)
theorem proved : Rows.TableAlgebraSaid := over
#print axioms proved
end Go.Proofs.Ytilljenmobgkaaa.tableAlgebra
namespace Go.Proofs.Ytilljenmobgkaaa
theorem tableAlgebra_holds : Rows.TableAlgebraSaid := tableAlgebra.proved
end Go.Proofs.Ytilljenmobgkaaa
