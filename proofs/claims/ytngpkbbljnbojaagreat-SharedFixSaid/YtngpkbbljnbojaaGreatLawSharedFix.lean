/- The statement SharedFix holds: called with any arguments that can be read as data, the law returns true and does not panic. No condition beyond the given row's own. -/
-- Written by wip/tools/rowgen.py, a program of this session's: the row, out of <Name>PureSharedFix and the printed walk.
import Derived.Test.YtngpkbbljnbojaaGreatRows
import Derived.Test.YtngpkbbljnbojaaGreatF20
import Derived.Test.YtngpkbbljnbojaaGreatRow
import Derived.Test.YtngpkbbljnbojaaGreatPureSharedFix
import Derived.WalkKit
import Derived.ProofKit
import Derived.OpenShut
import Derived.ShutString
import Derived.ChangeOld
import Derived.Below
import Derived.SizedLaws
namespace Go.Proofs.YtngpkbbljnbojaaGreat.sharedFix
open Go.ChangeShapes Go.WideShapes Go.ChangeAt Go.RowKit Go.Proofs.YtngpkbbljnbojaaGreatW.PrintWords Go.Proofs.YtngpkbbljnbojaaGreat.F
open Go.ChangeMaps (open_string shut_string)
set_option linter.unusedVariables false
theorem own : ownKnob Tryz.prog.godebug = none := by kernel_rfl
theorem laidOut : laidOutB Tryz.prog = true := by kernel_rfl
set_option maxRecDepth 100000 in
theorem lifted (os : Os) (started : os.Started) (H : Type) (enc : TypeId × Value → H) :
    ReturnsInHanded {} Tryz.checked os 4 .any (Rows.sharedFixSpec.pre6 enc Tryz.prog Tryz.f4 Rows.sharedFixRow.domain false) (Rows.sharedFixSpec.post enc Tryz.prog Tryz.f4 false true false false) := by
  refine returnsInHanded_of_change_sized (C := Tryz.checked) own started (by kernel_rfl) Tryz.func4
    (ChangeSpec.witness6 (enc := enc) (C := Tryz.checked) false ⟨#[], #[.slice none 0 0, .slice none 0 0], []⟩ 8 (by kernel_rfl) (by kernel_rfl) (by kernel_rfl) (by kernel_rfl)) ?_
  intro W base args ds gs before hval0 hW hcnd hsz0 _
  have hval : ∀ (j : Nat) t v, Tryz.f4.params[j]? = some t → args[j]? = some v → Value.okWide Tryz.prog W .any base t v := hval0
  have hW' := hW
  obtain ⟨p, q, hA0, hV, rfl, hfz, hnd⟩ := hW
  have hA : DataW.TrodAll enc Tryz.prog W 0 (fun _ => true) true Tryz.f4.params.toList args.toList ds p := hA0
  rw [Tryz.params4] at hA hval
  obtain ⟨v0, vs0, d0, ds0, p0, q0, hargs, rfl, rfl, h0, r0⟩ := trodAll_cons hA
  obtain ⟨v1, vs1, d1, ds1, p1, q1, rfl, rfl, rfl, h1, r1⟩ := trodAll_cons r0
  obtain ⟨rfl, rfl, rfl⟩ := trodAll_nil r1
  obtain rfl : args = #[v0, v1] := by cases args; simp_all
  obtain ⟨rfl, rfl⟩ := trodVars_none hV
  have k0 := h0
  have lt0 : ∀ x ∈ p0, x.block < W.heap.size := by obtain ⟨m, hm⟩ := k0; exact DataW.trod_lt m _ _ _ hm
  obtain ⟨fuel0, hf0⟩ := h0
  obtain ⟨A0, len0, c0, rfl⟩ := okWide_slice Tryz.underlying22 (hval 0 22 v0 rfl rfl)
  obtain ⟨l0, ⟨Ax0, cx0, hcs0, hc0, hr0⟩, w0⟩ := (opens_slice (d := k63) 63 Tryz.underlying22 (by kernel_rfl) (opens_iso (fun x : S63 => (x.f0, x.f1)) (fun p => ⟨p.1, p.2⟩) (fun _ => rfl) (opens_struct (d := (Kd.pair (Kd.slice 3 (Kd.int .i64)) (Kd.slice 3 (Kd.int .i64)))) Tryz.underlying63 rfl (by kernel_rfl) (opensF_cons rfl (by kernel_rfl) (opens_slice (d := (Kd.int .i64)) 3 Tryz.underlying43 (by kernel_rfl) (opens_int Tryz.underlying3)) (opensF_one rfl (by kernel_rfl) (opens_slice (d := (Kd.int .i64)) 3 Tryz.underlying43 (by kernel_rfl) (opens_int Tryz.underlying3))))))) _ _ _ _ _ _ _ _ hf0
  simp only [Value.cells] at hcs0
  obtain ⟨rfl, rfl, rfl⟩ : A0 = Ax0 ∧ len0 = l0.length ∧ c0 = cx0 := by simpa using hcs0
  have k1 := h1
  have lt1 : ∀ x ∈ p1, x.block < W.heap.size := by obtain ⟨m, hm⟩ := k1; exact DataW.trod_lt m _ _ _ hm
  obtain ⟨fuel1, hf1⟩ := h1
  obtain ⟨A1, len1, c1, rfl⟩ := okWide_slice Tryz.underlying25 (hval 1 25 v1 rfl rfl)
  obtain ⟨l1, ⟨Ax1, cx1, hcs1, hc1, hr1⟩, w1⟩ := (opens_slice (d := k42) 42 Tryz.underlying25 (by kernel_rfl) (opens_iso (fun x : S42 => (x.f0, x.f1, x.f2, x.f3, x.f4, x.f5)) (fun p => ⟨p.1, p.2.1, p.2.2.1, p.2.2.2.1, p.2.2.2.2.1, p.2.2.2.2.2⟩) (fun _ => rfl) (opens_struct (d := (Kd.pair (Kd.int .i64) (Kd.pair (Kd.int .i64) (Kd.pair (Kd.int .i64) (Kd.pair (Kd.int .i64) (Kd.pair (Kd.int .i64) k40)))))) Tryz.underlying42 rfl (by kernel_rfl) (opensF_cons rfl (by kernel_rfl) (opens_int Tryz.underlying3) (opensF_cons rfl (by kernel_rfl) (opens_int Tryz.underlying3) (opensF_cons rfl (by kernel_rfl) (opens_int Tryz.underlying3) (opensF_cons rfl (by kernel_rfl) (opens_int Tryz.underlying3) (opensF_cons rfl (by kernel_rfl) (opens_int Tryz.underlying3) (opensF_one rfl (by kernel_rfl) (opens_iso (fun x : S40 => (x.f0)) (fun p => ⟨p⟩) (fun _ => rfl) (opens_struct (d := (Kd.slice 103 k103)) Tryz.underlying40 rfl (by kernel_rfl) (opensF_one rfl (by kernel_rfl) (opens_slice (d := k103) 103 Tryz.underlying38 (by kernel_rfl) (opens_iso (fun x : S103 => (x.f0, x.f1, x.f2, x.f3)) (fun p => ⟨p.1, p.2.1, p.2.2.1, p.2.2.2⟩) (fun _ => rfl) (opens_struct (d := (Kd.pair (Kd.int .i64) (Kd.pair (Kd.int .i64) (Kd.pair (Kd.int .i64) (Kd.int .i64))))) Tryz.underlying103 rfl (by kernel_rfl) (opensF_cons rfl (by kernel_rfl) (opens_int Tryz.underlying3) (opensF_cons rfl (by kernel_rfl) (opens_int Tryz.underlying3) (opensF_cons rfl (by kernel_rfl) (opens_int Tryz.underlying3) (opensF_one rfl (by kernel_rfl) (opens_int Tryz.underlying3)))))))))))))))))))) _ _ _ _ _ _ _ _ hf1
  simp only [Value.cells] at hcs1
  obtain ⟨rfl, rfl, rfl⟩ : A1 = Ax1 ∧ len1 = l1.length ∧ c1 = cx1 := by simpa using hcs1
  clear hA0 hval0 hsz0
  obtain ⟨k, hk⟩ := Pure.SharedFix l0 l1 w0 w1
  refine (F.ancepslaw41_SharedFix.calls k A0 c0 l0 A1 c1 l1 true W hr0 hc0 hr1 hc1 hk).mono fun e W' ⟨he, bel⟩ => ?_
  subst he
  exact ⟨_, rfl, _, _, _, [], _, [], hW', trodAll_mk1 (shut_bool Tryz.underlying4 _), (trodAll_cons_mk (Below.trod laidOut (by kernel_rfl) (of_decide_eq_true (by kernel_rfl)) k0 bel lt0) (trodAll_cons_mk (Below.trod laidOut (by kernel_rfl) (of_decide_eq_true (by kernel_rfl)) k1 bel lt1) trodAll_mk0)), rfl, bel.frame _, fun h => by cases h⟩
theorem over : Rows.sharedFixRow.holds Tryz.pinned (OpenSpec.ofChange Rows.sharedFixSpec) :=
  OpenClaim.holds_of_wide 4 Tryz.f4 rfl rfl rfl rfl rfl rfl rfl ⟨rfl, rfl, rfl, rfl, rfl⟩ rfl rfl rfl rfl rfl (by kernel_rfl) Tryz.func4 (by kernel_rfl)
    (of_decide_eq_true (by kernel_rfl)) (by unfold Func.isWrapper; first | (rw [if_pos (by decide +kernel)]; kernel_rfl) | (rw [if_neg (by decide +kernel)]; exact ⟨rfl, rfl⟩))
    (fun os started H enc _ => lifted os started H enc)
theorem proved : Rows.SharedFixSaid := over
#print axioms proved
end Go.Proofs.YtngpkbbljnbojaaGreat.sharedFix
namespace Go.Proofs.YtngpkbbljnbojaaGreat
theorem sharedFix_holds : Rows.SharedFixSaid := sharedFix.proved
end Go.Proofs.YtngpkbbljnbojaaGreat
