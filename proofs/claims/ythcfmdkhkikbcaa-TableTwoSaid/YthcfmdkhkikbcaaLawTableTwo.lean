/- The statement TableTwo holds: called with any arguments that can be read as data, the law returns true and does not panic. No condition beyond the given row's own. -/
-- Written by wip/tools/rowgen.py, a program of this session's: the row, out of <Name>PureTableTwo and the printed walk.
import Derived.Test.YthcfmdkhkikbcaaRows
import Derived.Test.YthcfmdkhkikbcaaT25
import Derived.Test.YthcfmdkhkikbcaaRow
import Derived.Test.YthcfmdkhkikbcaaPureTableTwo
import Derived.WalkKit
import Derived.ProofKit
import Derived.OpenShut
import Derived.ShutString
import Derived.ChangeOld
import Derived.Below
import Derived.SizedLaws
namespace Go.Proofs.Ythcfmdkhkikbcaa.tableTwo
open Go.ChangeShapes Go.WideShapes Go.ChangeAt Go.RowKit Go.Proofs.YthcfmdkhkikbcaaW.PrintWords Go.Proofs.Ythcfmdkhkikbcaa.T
open Go.ChangeMaps (open_string shut_string)
set_option linter.unusedVariables false
theorem own : ownKnob Try.prog.godebug = none := by kernel_rfl
theorem laidOut : laidOutB Try.prog = true := by kernel_rfl
set_option maxRecDepth 100000 in
theorem lifted (os : Os) (started : os.Started) (H : Type) (enc : TypeId × Value → H) :
    ReturnsInHanded {} Try.checked os 6 .any (Rows.tableTwoSpec.pre6 enc Try.prog Try.f6 Rows.tableTwoRow.domain false) (Rows.tableTwoSpec.post enc Try.prog Try.f6 false true false false) := by
  refine returnsInHanded_of_change_sized (C := Try.checked) own started (by kernel_rfl) Try.func6
    (ChangeSpec.witness6 (enc := enc) (C := Try.checked) false ⟨#[], #[.agg #[.slice none 0 0, .slice none 0 0], .agg #[.slice none 0 0, .slice none 0 0]], []⟩ 8 (by kernel_rfl) (by kernel_rfl) (by kernel_rfl) (by kernel_rfl)) ?_
  intro W base args ds gs before hval0 hW hcnd hsz0 _
  have hval : ∀ (j : Nat) t v, Try.f6.params[j]? = some t → args[j]? = some v → Value.okWide Try.prog W .any base t v := hval0
  have hW' := hW
  obtain ⟨p, q, hA0, hV, rfl, hfz, hnd⟩ := hW
  have hA : DataW.TrodAll enc Try.prog W 0 (fun _ => true) true Try.f6.params.toList args.toList ds p := hA0
  rw [Try.params6] at hA hval
  obtain ⟨v0, vs0, d0, ds0, p0, q0, hargs, rfl, rfl, h0, r0⟩ := trodAll_cons hA
  obtain ⟨v1, vs1, d1, ds1, p1, q1, rfl, rfl, rfl, h1, r1⟩ := trodAll_cons r0
  obtain ⟨rfl, rfl, rfl⟩ := trodAll_nil r1
  obtain rfl : args = #[v0, v1] := by cases args; simp_all
  obtain ⟨rfl, rfl⟩ := trodVars_none hV
  have k0 := h0
  have lt0 : ∀ x ∈ p0, x.block < W.heap.size := by obtain ⟨m, hm⟩ := k0; exact DataW.trod_lt m _ _ _ hm
  obtain ⟨fuel0, hf0⟩ := h0
  obtain ⟨cs0, rfl, hz0⟩ := okWide_struct Try.underlying29 (hval 0 29 v0 rfl rfl)
  obtain ⟨g0, hK0, w0⟩ := (opens_struct (d := (Kd.pair (Kd.slice 3 (Kd.int .i64)) (Kd.slice 3 (Kd.int .i64)))) Try.underlying29 rfl (by kernel_rfl) (opensF_cons rfl (by kernel_rfl) (opens_slice (d := (Kd.int .i64)) 3 Try.underlying27 (by kernel_rfl) (opens_int Try.underlying3)) (opensF_one rfl (by kernel_rfl) (opens_slice (d := (Kd.int .i64)) 3 Try.underlying27 (by kernel_rfl) (opens_int Try.underlying3))))) _ _ _ _ _ _ _ _ hf0
  obtain ⟨l0_0, l0_1⟩ := g0
  obtain ⟨e0_0, r0_0, hcs0_0, hk0_0, hn0_0⟩ := hK0
  obtain ⟨A0_0, c0_0, he0_0, hc0_0, hr0_0⟩ := hk0_0
  obtain ⟨A0_1, c0_1, he0_1, hc0_1, hr0_1⟩ := hn0_0
  obtain rfl : cs0 = #[.slice A0_0 l0_0.length c0_0, .slice A0_1 l0_1.length c0_1] := by
    have hcs : cs0.toList = (#[.slice A0_0 l0_0.length c0_0, .slice A0_1 l0_1.length c0_1] : Array Value).toList := by
      have h_ : cs0.toList = _ := hcs0_0
      rw [h_, he0_0, he0_1]
      rfl
    cases cs0; simpa using hcs
  have k1 := h1
  have lt1 : ∀ x ∈ p1, x.block < W.heap.size := by obtain ⟨m, hm⟩ := k1; exact DataW.trod_lt m _ _ _ hm
  obtain ⟨fuel1, hf1⟩ := h1
  obtain ⟨cs1, rfl, hz1⟩ := okWide_struct Try.underlying29 (hval 1 29 v1 rfl rfl)
  obtain ⟨g1, hK1, w1⟩ := (opens_struct (d := (Kd.pair (Kd.slice 3 (Kd.int .i64)) (Kd.slice 3 (Kd.int .i64)))) Try.underlying29 rfl (by kernel_rfl) (opensF_cons rfl (by kernel_rfl) (opens_slice (d := (Kd.int .i64)) 3 Try.underlying27 (by kernel_rfl) (opens_int Try.underlying3)) (opensF_one rfl (by kernel_rfl) (opens_slice (d := (Kd.int .i64)) 3 Try.underlying27 (by kernel_rfl) (opens_int Try.underlying3))))) _ _ _ _ _ _ _ _ hf1
  obtain ⟨l1_0, l1_1⟩ := g1
  obtain ⟨e1_0, r1_0, hcs1_0, hk1_0, hn1_0⟩ := hK1
  obtain ⟨A1_0, c1_0, he1_0, hc1_0, hr1_0⟩ := hk1_0
  obtain ⟨A1_1, c1_1, he1_1, hc1_1, hr1_1⟩ := hn1_0
  obtain rfl : cs1 = #[.slice A1_0 l1_0.length c1_0, .slice A1_1 l1_1.length c1_1] := by
    have hcs : cs1.toList = (#[.slice A1_0 l1_0.length c1_0, .slice A1_1 l1_1.length c1_1] : Array Value).toList := by
      have h_ : cs1.toList = _ := hcs1_0
      rw [h_, he1_0, he1_1]
      rfl
    cases cs1; simpa using hcs
  clear hA0 hval0 hsz0
  obtain ⟨k, hk⟩ := Pure.TableTwo l0_0 l0_1 l1_0 l1_1 w0.1 w0.2 w1.1 w1.2
  refine (T.ancepslaw38_TableTwo.calls k A0_0 c0_0 l0_0 A0_1 c0_1 l0_1 A1_0 c1_0 l1_0 A1_1 c1_1 l1_1 true W hr0_0 hc0_0 hr0_1 hc0_1 hr1_0 hc1_0 hr1_1 hc1_1 hk).mono fun e W' ⟨he, bel⟩ => ?_
  subst he
  exact ⟨_, rfl, _, _, _, [], _, [], hW', trodAll_mk1 (shut_bool Try.underlying4 _), (trodAll_cons_mk (Below.trod laidOut (by kernel_rfl) (of_decide_eq_true (by kernel_rfl)) k0 bel lt0) (trodAll_cons_mk (Below.trod laidOut (by kernel_rfl) (of_decide_eq_true (by kernel_rfl)) k1 bel lt1) trodAll_mk0)), rfl, bel.frame _, fun h => by cases h⟩
theorem over : Rows.tableTwoRow.holds Try.pinned (OpenSpec.ofChange Rows.tableTwoSpec) :=
  OpenClaim.holds_of_wide 6 Try.f6 rfl rfl rfl rfl rfl rfl rfl ⟨rfl, rfl, rfl, rfl, rfl⟩ rfl rfl rfl rfl rfl (by kernel_rfl) Try.func6 (by kernel_rfl)
    (of_decide_eq_true (by kernel_rfl)) (by unfold Func.isWrapper; first | (rw [if_pos (by decide +kernel)]; kernel_rfl) | (rw [if_neg (by decide +kernel)]; exact ⟨rfl, rfl⟩))
    (fun os started H enc _ => lifted os started H enc)
theorem proved : Rows.TableTwoSaid := over
#print axioms proved
end Go.Proofs.Ythcfmdkhkikbcaa.tableTwo
namespace Go.Proofs.Ythcfmdkhkikbcaa
theorem tableTwo_holds : Rows.TableTwoSaid := tableTwo.proved
end Go.Proofs.Ythcfmdkhkikbcaa
