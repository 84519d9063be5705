/- The statement ConflictChecks holds: called with any arguments that can be read as data, the law returns true and does not panic. No condition beyond the given row's own. -/
-- Written by wip/tools/rowgen.py, a program of this session's: the row, out of <Name>PureConflictChecks and the printed walk.
import Derived.Test.YtkjghablbeaioaaGreatRows
import Derived.Test.YtkjghablbeaioaaGreatB24
import Derived.Test.YtkjghablbeaioaaGreatRow
import Derived.Test.YtkjghablbeaioaaGreatPureConflictChecks
import Derived.WalkKit
import Derived.ProofKit
import Derived.OpenShut
import Derived.ShutString
import Derived.ChangeOld
import Derived.Below
import Derived.SizedLaws
namespace Go.Proofs.YtkjghablbeaioaaGreat.conflictChecks
open Go.ChangeShapes Go.WideShapes Go.ChangeAt Go.RowKit Go.Proofs.YtkjghablbeaioaaGreatW.PrintWords Go.Proofs.YtkjghablbeaioaaGreat.B
open Go.ChangeMaps (open_string shut_string)
set_option linter.unusedVariables false
theorem own : ownKnob Tryz.prog.godebug = none := by kernel_rfl
theorem laidOut : laidOutB Tryz.prog = true := by kernel_rfl
set_option maxRecDepth 100000 in
theorem lifted (os : Os) (started : os.Started) (H : Type) (enc : TypeId × Value → H) :
    ReturnsInHanded {} Tryz.checked os 3 .any (Rows.conflictChecksSpec.pre6 enc Tryz.prog Tryz.f3 Rows.conflictChecksRow.domain false) (Rows.conflictChecksSpec.post enc Tryz.prog Tryz.f3 false true false false) := by
  refine returnsInHanded_of_change_sized (C := Tryz.checked) own started (by kernel_rfl) Tryz.func3
    (ChangeSpec.witness6 (enc := enc) (C := Tryz.checked) false ⟨#[], #[.slice none 0 0, .agg #[.slice none 0 0, .slice none 0 0, .slice none 0 0], .slice none 0 0], []⟩ 8 (by kernel_rfl) (by kernel_rfl) (by kernel_rfl) (by kernel_rfl)) ?_
  intro W base args ds gs before hval0 hW hcnd hsz0 _
  have hval : ∀ (j : Nat) t v, Tryz.f3.params[j]? = some t → args[j]? = some v → Value.okWide Tryz.prog W .any base t v := hval0
  have hW' := hW
  obtain ⟨p, q, hA0, hV, rfl, hfz, hnd⟩ := hW
  have hA : DataW.TrodAll enc Tryz.prog W 0 (fun _ => true) true Tryz.f3.params.toList args.toList ds p := hA0
  rw [Tryz.params3] at hA hval
  obtain ⟨v0, vs0, d0, ds0, p0, q0, hargs, rfl, rfl, h0, r0⟩ := trodAll_cons hA
  obtain ⟨v1, vs1, d1, ds1, p1, q1, rfl, rfl, rfl, h1, r1⟩ := trodAll_cons r0
  obtain ⟨v2, vs2, d2, ds2, p2, q2, rfl, rfl, rfl, h2, r2⟩ := trodAll_cons r1
  obtain ⟨rfl, rfl, rfl⟩ := trodAll_nil r2
  obtain rfl : args = #[v0, v1, v2] := by cases args; simp_all
  obtain ⟨rfl, rfl⟩ := trodVars_none hV
  have k0 := h0
  have lt0 : ∀ x ∈ p0, x.block < W.heap.size := by obtain ⟨m, hm⟩ := k0; exact DataW.trod_lt m _ _ _ hm
  obtain ⟨fuel0, hf0⟩ := h0
  obtain ⟨A0, len0, c0, rfl⟩ := okWide_slice Tryz.underlying22 (hval 0 22 v0 rfl rfl)
  obtain ⟨l0, ⟨Ax0, cx0, hcs0, hc0, hr0⟩, w0⟩ := (opens_slice (d := k49) 49 Tryz.underlying22 (by kernel_rfl) (opens_iso (fun x : S49 => (x.f0, x.f1)) (fun p => ⟨p.1, p.2⟩) (fun _ => rfl) (opens_struct (d := (Kd.pair (Kd.slice 3 (Kd.int .i64)) (Kd.slice 3 (Kd.int .i64)))) Tryz.underlying49 rfl (by kernel_rfl) (opensF_cons rfl (by kernel_rfl) (opens_slice (d := (Kd.int .i64)) 3 Tryz.underlying23 (by kernel_rfl) (opens_int Tryz.underlying3)) (opensF_one rfl (by kernel_rfl) (opens_slice (d := (Kd.int .i64)) 3 Tryz.underlying23 (by kernel_rfl) (opens_int Tryz.underlying3))))))) _ _ _ _ _ _ _ _ hf0
  simp only [Value.cells] at hcs0
  obtain ⟨rfl, rfl, rfl⟩ : A0 = Ax0 ∧ len0 = l0.length ∧ c0 = cx0 := by simpa using hcs0
  have k1 := h1
  have lt1 : ∀ x ∈ p1, x.block < W.heap.size := by obtain ⟨m, hm⟩ := k1; exact DataW.trod_lt m _ _ _ hm
  obtain ⟨fuel1, hf1⟩ := h1
  obtain ⟨cs1, rfl, hz1⟩ := okWide_struct Tryz.underlying28 (hval 1 28 v1 rfl rfl)
  obtain ⟨g1, hK1, w1⟩ := (opens_struct (d := (Kd.pair (Kd.slice 3 (Kd.int .i64)) (Kd.pair k26 (Kd.slice 3 (Kd.int .i64))))) Tryz.underlying28 rfl (by kernel_rfl) (opensF_cons rfl (by kernel_rfl) (opens_slice (d := (Kd.int .i64)) 3 Tryz.underlying23 (by kernel_rfl) (opens_int Tryz.underlying3)) (opensF_cons rfl (by kernel_rfl) (opens_iso (fun x : S26 => (x.f0)) (fun p => ⟨p⟩) (fun _ => rfl) (opens_struct (d := (Kd.slice 96 k96)) Tryz.underlying26 rfl (by kernel_rfl) (opensF_one rfl (by kernel_rfl) (opens_slice (d := k96) 96 Tryz.underlying24 (by kernel_rfl) (opens_iso (fun x : S96 => (x.f0, x.f1, x.f2, x.f3)) (fun p => ⟨p.1, p.2.1, p.2.2.1, p.2.2.2⟩) (fun _ => rfl) (opens_struct (d := (Kd.pair (Kd.int .i64) (Kd.pair (Kd.int .i64) (Kd.pair (Kd.int .i64) (Kd.int .i64))))) Tryz.underlying96 rfl (by kernel_rfl) (opensF_cons rfl (by kernel_rfl) (opens_int Tryz.underlying3) (opensF_cons rfl (by kernel_rfl) (opens_int Tryz.underlying3) (opensF_cons rfl (by kernel_rfl) (opens_int Tryz.underlying3) (opensF_one rfl (by kernel_rfl) (opens_int Tryz.underlying3))))))))))) (opensF_one rfl (by kernel_rfl) (opens_slice (d := (Kd.int .i64)) 3 Tryz.underlying23 (by kernel_rfl) (opens_int Tryz.underlying3)))))) _ _ _ _ _ _ _ _ hf1
  obtain ⟨l1_0, ⟨l1_1⟩, l1_2⟩ := g1
  obtain ⟨e1_0, r1_0, hcs1_0, hk1_0, hn1_0⟩ := hK1
  obtain ⟨A1_0, c1_0, he1_0, hc1_0, hr1_0⟩ := hk1_0
  obtain ⟨e1_1, r1_1, hcs1_1, hk1_1, hn1_1⟩ := hn1_0
  obtain ⟨A1_1, c1_1, he1_1, hc1_1, hr1_1⟩ := k26_open hk1_1
  obtain ⟨A1_2, c1_2, he1_2, hc1_2, hr1_2⟩ := hn1_1
  obtain rfl : cs1 = #[.slice A1_0 l1_0.length c1_0, .slice A1_1 l1_1.length c1_1, .slice A1_2 l1_2.length c1_2] := by
    have hcs : cs1.toList = (#[.slice A1_0 l1_0.length c1_0, .slice A1_1 l1_1.length c1_1, .slice A1_2 l1_2.length c1_2] : Array Value).toList := by
      have h_ : cs1.toList = _ := hcs1_0
      rw [h_, he1_0, hcs1_1, he1_1, he1_2]
      try rfl
    cases cs1; simpa using hcs
  have k2 := h2
  have lt2 : ∀ x ∈ p2, x.block < W.heap.size := by obtain ⟨m, hm⟩ := k2; exact DataW.trod_lt m _ _ _ hm
  obtain ⟨fuel2, hf2⟩ := h2
  obtain ⟨A2, len2, c2, rfl⟩ := okWide_slice Tryz.underlying23 (hval 2 23 v2 rfl rfl)
  obtain ⟨l2, ⟨Ax2, cx2, hcs2, hc2, hr2⟩, w2⟩ := (opens_slice (d := (Kd.int .i64)) 3 Tryz.underlying23 (by kernel_rfl) (opens_int Tryz.underlying3)) _ _ _ _ _ _ _ _ hf2
  simp only [Value.cells] at hcs2
  obtain ⟨rfl, rfl, rfl⟩ : A2 = Ax2 ∧ len2 = l2.length ∧ c2 = cx2 := by simpa using hcs2
  clear hA0 hval0 hsz0
  obtain ⟨k, hk⟩ := Pure.ConflictChecks l0 l1_0 l1_1 l1_2 l2 w0 w1.1 w1.2.1 w1.2.2 w2
  refine (B.ancepslaw42_ConflictChecks.calls k A0 c0 l0 A1_0 c1_0 l1_0 A1_1 c1_1 l1_1 A1_2 c1_2 l1_2 A2 c2 l2 true W hr0 hc0 hr1_0 hc1_0 hr1_1 hc1_1 hr1_2 hc1_2 hr2 hc2 hk).mono fun e W' ⟨he, bel⟩ => ?_
  subst he
  exact ⟨_, rfl, _, _, _, [], _, [], hW', trodAll_mk1 (shut_bool Tryz.underlying4 _), (trodAll_cons_mk (Below.trod laidOut (by kernel_rfl) (of_decide_eq_true (by kernel_rfl)) k0 bel lt0) (trodAll_cons_mk (Below.trod laidOut (by kernel_rfl) (of_decide_eq_true (by kernel_rfl)) k1 bel lt1) (trodAll_cons_mk (Below.trod laidOut (by kernel_rfl) (of_decide_eq_true (by kernel_rfl)) k2 bel lt2) trodAll_mk0))), rfl, bel.frame _, fun h => by cases h⟩
theorem over : Rows.conflictChecksRow.holds Tryz.pinned (OpenSpec.ofChange Rows.conflictChecksSpec) :=
  OpenClaim.holds_of_wide 3 Tryz.f3 rfl rfl rfl rfl rfl rfl rfl ⟨rfl, rfl, rfl, rfl, rfl⟩ rfl rfl rfl rfl rfl (by kernel_rfl) Tryz.func3 (by kernel_rfl)
    (of_decide_eq_true (by kernel_rfl)) (by unfold Func.isWrapper; first | (rw [if_pos (by decide +kernel)]; kernel_rfl) | (rw [if_neg (by decide +kernel)]; exact ⟨rfl, rfl⟩))
    (fun os started H enc _ => lifted os started H enc)
theorem proved : Rows.ConflictChecksSaid := over
#print axioms proved
end Go.Proofs.YtkjghablbeaioaaGreat.conflictChecks
namespace Go.Proofs.YtkjghablbeaioaaGreat
theorem conflictChecks_holds : Rows.ConflictChecksSaid := conflictChecks.proved
end Go.Proofs.YtkjghablbeaioaaGreat
