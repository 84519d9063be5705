/- The statement SolveTrim holds: called with any arguments that can be read as data, the law returns true and does not panic. No condition beyond the given row's own. -/
-- Written by wip/tools/rowgen.py, a program of this session's: the row, out of <Name>PureSolveTrim and the printed walk.
import Derived.Test.YtkaalbbbpebpdaaRows
import Derived.Test.YtkaalbbbpebpdaaT13
import Derived.Test.YtkaalbbbpebpdaaRow
import Derived.Test.YtkaalbbbpebpdaaPureSolveTrim
import Derived.WalkKit
import Derived.ProofKit
import Derived.OpenShut
import Derived.ShutString
import Derived.ChangeOld
import Derived.Below
import Derived.SizedLaws
namespace Go.Proofs.Ytkaalbbbpebpdaa.solveTrim
open Go.ChangeShapes Go.WideShapes Go.ChangeAt Go.RowKit Go.Proofs.YtkaalbbbpebpdaaW.PrintWords Go.Proofs.Ytkaalbbbpebpdaa.T
open Go.ChangeMaps (open_string shut_string)
set_option linter.unusedVariables false
theorem own : ownKnob Try.prog.godebug = none := by kernel_rfl
theorem laidOut : laidOutB Try.prog = true := by kernel_rfl
set_option maxRecDepth 100000 in
theorem lifted (os : Os) (started : os.Started) (H : Type) (enc : TypeId × Value → H) :
    ReturnsInHanded {} Try.checked os 3 .any (Rows.solveTrimSpec.pre6 enc Try.prog Try.f3 Rows.solveTrimRow.domain false) (Rows.solveTrimSpec.post enc Try.prog Try.f3 false true false false) := by
  refine returnsInHanded_of_change_sized (C := Try.checked) own started (by kernel_rfl) Try.func3
    (ChangeSpec.witness6 (enc := enc) (C := Try.checked) false ⟨#[], #[.slice none 0 0, .agg #[.slice none 0 0]], []⟩ 8 (by kernel_rfl) (by kernel_rfl) (by kernel_rfl) (by kernel_rfl)) ?_
  intro W base args ds gs before hval0 hW hcnd hsz0 _
  have hval : ∀ (j : Nat) t v, Try.f3.params[j]? = some t → args[j]? = some v → Value.okWide Try.prog W .any base t v := hval0
  have hW' := hW
  obtain ⟨p, q, hA0, hV, rfl, hfz, hnd⟩ := hW
  have hA : DataW.TrodAll enc Try.prog W 0 (fun _ => true) true Try.f3.params.toList args.toList ds p := hA0
  rw [Try.params3] at hA hval
  obtain ⟨v0, vs0, d0, ds0, p0, q0, hargs, rfl, rfl, h0, r0⟩ := trodAll_cons hA
  obtain ⟨v1, vs1, d1, ds1, p1, q1, rfl, rfl, rfl, h1, r1⟩ := trodAll_cons r0
  obtain ⟨rfl, rfl, rfl⟩ := trodAll_nil r1
  obtain rfl : args = #[v0, v1] := by cases args; simp_all
  obtain ⟨rfl, rfl⟩ := trodVars_none hV
  have k0 := h0
  have lt0 : ∀ x ∈ p0, x.block < W.heap.size := by obtain ⟨m, hm⟩ := k0; exact DataW.trod_lt m _ _ _ hm
  obtain ⟨fuel0, hf0⟩ := h0
  obtain ⟨A0, len0, c0, rfl⟩ := okWide_slice Try.underlying22 (hval 0 22 v0 rfl rfl)
  obtain ⟨l0, ⟨Ax0, cx0, hcs0, hc0, hr0⟩, w0⟩ := (opens_slice (d := k35) 35 Try.underlying22 (by kernel_rfl) (opens_iso (fun x : S35 => (x.f0, x.f1)) (fun p => ⟨p.1, p.2⟩) (fun _ => rfl) (opens_struct (d := (Kd.pair (Kd.slice 3 (Kd.int .i64)) (Kd.slice 3 (Kd.int .i64)))) Try.underlying35 rfl (by kernel_rfl) (opensF_cons rfl (by kernel_rfl) (opens_slice (d := (Kd.int .i64)) 3 Try.underlying33 (by kernel_rfl) (opens_int Try.underlying3)) (opensF_one rfl (by kernel_rfl) (opens_slice (d := (Kd.int .i64)) 3 Try.underlying33 (by kernel_rfl) (opens_int Try.underlying3))))))) _ _ _ _ _ _ _ _ hf0
  simp only [Value.cells] at hcs0
  obtain ⟨rfl, rfl, rfl⟩ : A0 = Ax0 ∧ len0 = l0.length ∧ c0 = cx0 := by simpa using hcs0
  have k1 := h1
  have lt1 : ∀ x ∈ p1, x.block < W.heap.size := by obtain ⟨m, hm⟩ := k1; exact DataW.trod_lt m _ _ _ hm
  obtain ⟨fuel1, hf1⟩ := h1
  obtain ⟨cs1, rfl, hz1⟩ := okWide_struct Try.underlying25 (hval 1 25 v1 rfl rfl)
  obtain ⟨l1_0, hK1, w1⟩ := (opens_struct (d := (Kd.slice 55 k55)) Try.underlying25 rfl (by kernel_rfl) (opensF_one rfl (by kernel_rfl) (opens_slice (d := k55) 55 Try.underlying23 (by kernel_rfl) (opens_iso (fun x : S55 => (x.f0, x.f1, x.f2, x.f3)) (fun p => ⟨p.1, p.2.1, p.2.2.1, p.2.2.2⟩) (fun _ => rfl) (opens_struct (d := (Kd.pair (Kd.int .i64) (Kd.pair (Kd.int .i64) (Kd.pair (Kd.int .i64) (Kd.int .i64))))) Try.underlying55 rfl (by kernel_rfl) (opensF_cons rfl (by kernel_rfl) (opens_int Try.underlying3) (opensF_cons rfl (by kernel_rfl) (opens_int Try.underlying3) (opensF_cons rfl (by kernel_rfl) (opens_int Try.underlying3) (opensF_one rfl (by kernel_rfl) (opens_int Try.underlying3)))))))))) _ _ _ _ _ _ _ _ hf1
  obtain ⟨A1_0, c1_0, he1_0, hc1_0, hr1_0⟩ := hK1
  obtain rfl : cs1 = #[.slice A1_0 l1_0.length c1_0] := by
    have hcs : cs1.toList = (#[.slice A1_0 l1_0.length c1_0] : Array Value).toList := by
      have h_ : cs1.toList = _ := he1_0
      rw [h_]
      try rfl
    cases cs1; simpa using hcs
  clear hA0 hval0 hsz0
  obtain ⟨k, hk⟩ := Pure.SolveTrim l0 l1_0 w0 w1
  refine (T.ancepslaw40_SolveTrim.calls k A0 c0 l0 A1_0 c1_0 l1_0 true W hr0 hc0 hr1_0 hc1_0 hk).mono fun e W' ⟨he, bel⟩ => ?_
  subst he
  exact ⟨_, rfl, _, _, _, [], _, [], hW', trodAll_mk1 (shut_bool Try.underlying4 _), (trodAll_cons_mk (Below.trod laidOut (by kernel_rfl) (of_decide_eq_true (by kernel_rfl)) k0 bel lt0) (trodAll_cons_mk (Below.trod laidOut (by kernel_rfl) (of_decide_eq_true (by kernel_rfl)) k1 bel lt1) trodAll_mk0)), rfl, bel.frame _, fun h => by cases h⟩
theorem over : Rows.solveTrimRow.holds Try.pinned (OpenSpec.ofChange Rows.solveTrimSpec) :=
  OpenClaim.holds_of_wide 3 Try.f3 rfl rfl rfl rfl rfl rfl rfl ⟨rfl, rfl, rfl, rfl, rfl⟩ rfl rfl rfl rfl rfl (by kernel_rfl) Try.func3 (by kernel_rfl)
    (of_decide_eq_true (by kernel_rfl)) (by unfold Func.isWrapper; first | (rw [if_pos (by decide +kernel)]; kernel_rfl) | (rw [if_neg (by decide +kernel)]; exact ⟨rfl, rfl⟩))
    (fun os started H enc _ => lifted os started H enc)
theorem proved : Rows.SolveTrimSaid := over
#print axioms proved
end Go.Proofs.Ytkaalbbbpebpdaa.solveTrim
namespace Go.Proofs.Ytkaalbbbpebpdaa
theorem solveTrim_holds : Rows.SolveTrimSaid := solveTrim.proved
end Go.Proofs.Ytkaalbbbpebpdaa
