/- The statement TableOver holds: called with any arguments that can be read as data, the law returns true and does not panic. No condition beyond the given row's own. -/
-- Written by wip/tools/rowgen.py, a program of this session's: the row, out of <Name>PureTableOver and the printed walk.
import Derived.Test.YthcfmdkhkikbcaaRows
import Derived.Test.YthcfmdkhkikbcaaT29
import Derived.Test.YthcfmdkhkikbcaaRow
import Derived.Test.YthcfmdkhkikbcaaPureTableOver
import Derived.WalkKit
import Derived.ProofKit
import Derived.OpenShut
import Derived.ShutString
import Derived.ChangeOld
import Derived.Below
import Derived.SizedLaws
namespace Go.Proofs.Ythcfmdkhkikbcaa.tableOver
open Go.ChangeShapes Go.WideShapes Go.ChangeAt Go.RowKit Go.Proofs.YthcfmdkhkikbcaaW.PrintWords Go.Proofs.Ythcfmdkhkikbcaa.T
open Go.ChangeMaps (open_string shut_string)
set_option linter.unusedVariables false
theorem own : ownKnob Try.prog.godebug = none := by kernel_rfl
theorem laidOut : laidOutB Try.prog = true := by kernel_rfl
set_option maxRecDepth 100000 in
theorem lifted (os : Os) (started : os.Started) (H : Type) (enc : TypeId × Value → H) :
    ReturnsInHanded {} Try.checked os 10 .any (Rows.tableOverSpec.pre6 enc Try.prog Try.f10 Rows.tableOverRow.domain false) (Rows.tableOverSpec.post enc Try.prog Try.f10 false true false false) := by
  refine returnsInHanded_of_change_sized (C := Try.checked) own started (by kernel_rfl) Try.func10
    (ChangeSpec.witness6 (enc := enc) (C := Try.checked) false ⟨#[], #[.agg #[.slice none 0 0, .slice none 0 0], .slice none 0 0], []⟩ 8 (by kernel_rfl) (by kernel_rfl) (by kernel_rfl) (by kernel_rfl)) ?_
  intro W base args ds gs before hval0 hW hcnd hsz0 _
  have hval : ∀ (j : Nat) t v, Try.f10.params[j]? = some t → args[j]? = some v → Value.okWide Try.prog W .any base t v := hval0
  have hW' := hW
  obtain ⟨p, q, hA0, hV, rfl, hfz, hnd⟩ := hW
  have hA : DataW.TrodAll enc Try.prog W 0 (fun _ => true) true Try.f10.params.toList args.toList ds p := hA0
  rw [Try.params10] at hA hval
  obtain ⟨v0, vs0, d0, ds0, p0, q0, hargs, rfl, rfl, h0, r0⟩ := trodAll_cons hA
  obtain ⟨v1, vs1, d1, ds1, p1, q1, rfl, rfl, rfl, h1, r1⟩ := trodAll_cons r0
  obtain ⟨rfl, rfl, rfl⟩ := trodAll_nil r1
  obtain rfl : args = #[v0, v1] := by cases args; simp_all
  obtain ⟨rfl, rfl⟩ := trodVars_none hV
  have k0 := h0
  have lt0 : ∀ x ∈ p0, x.block < W.heap.size := by obtain ⟨m, hm⟩ := k0; exact DataW.trod_lt m _ _ _ hm
  obtain ⟨fuel0, hf0⟩ := h0
  obtain ⟨cs0, rfl, hz0⟩ := okWide_struct Try.underlying29 (hval 0 29 v0 rfl rfl)
  obtain ⟨g0, hK0, w0⟩ := (opens_struct (d := (Kd.pair (Kd.slice 3 (Kd.int .i64)) (Kd.slice 3 (Kd.int .i64)))) Try.underlying29 rfl (by kernel_rfl) (opensF_cons rfl (by kernel_rfl) (opens_slice (d := (Kd.int .i64)) 3 Try.underlying27 (by kernel_rfl) (opens_int Try.underlying3)) (opensF_one rfl (by kernel_rfl) (opens_slice (d := (Kd.int .i64)) 3 Try.underlying27 (by kernel_rfl) (opens_int Try.underlying3))))) _ _ _ _ _ _ _ _ hf0
  obtain ⟨l0_0, l0_1⟩ := g0
  obtain ⟨e0_0, r0_0, hcs0_0, hk0_0, hn0_0⟩ := hK0
  obtain ⟨A0_0, c0_0, he0_0, hc0_0, hr0_0⟩ := hk0_0
  obtain ⟨A0_1, c0_1, he0_1, hc0_1, hr0_1⟩ := hn0_0
  obtain rfl : cs0 = #[.slice A0_0 l0_0.length c0_0, .slice A0_1 l0_1.length c0_1] := by
    have hcs : cs0.toList = (#[.slice A0_0 l0_0.length c0_0, .slice A0_1 l0_1.length c0_1] : Array Value).toList := by
      have h_ : cs0.toList = _ := hcs0_0
      rw [h_, he0_0, he0_1]
      rfl
    cases cs0; simpa using hcs
  have k1 := h1
  have lt1 : ∀ x ∈ p1, x.block < W.heap.size := by obtain ⟨m, hm⟩ := k1; exact DataW.trod_lt m _ _ _ hm
  obtain ⟨fuel1, hf1⟩ := h1
  obtain ⟨A1, len1, c1, rfl⟩ := okWide_slice Try.underlying27 (hval 1 27 v1 rfl rfl)
  obtain ⟨l1, ⟨Ax1, cx1, hcs1, hc1, hr1⟩, w1⟩ := (opens_slice (d := (Kd.int .i64)) 3 Try.underlying27 (by kernel_rfl) (opens_int Try.underlying3)) _ _ _ _ _ _ _ _ hf1
  simp only [Value.cells] at hcs1
  obtain ⟨rfl, rfl, rfl⟩ : A1 = Ax1 ∧ len1 = l1.length ∧ c1 = cx1 := by simpa using hcs1
  clear hA0 hval0 hsz0
  obtain ⟨k, hk⟩ := Pure.TableOver l0_0 l0_1 l1 w0.1 w0.2 w1
  refine (T.ancepslaw38_TableOver.calls k A0_0 c0_0 l0_0 A0_1 c0_1 l0_1 A1 c1 l1 true W hr0_0 hc0_0 hr0_1 hc0_1 hr1 hc1 hk).mono fun e W' ⟨he, bel⟩ => ?_
  subst he
  exact ⟨_, rfl, _, _, _, [], _, [], hW', trodAll_mk1 (shut_bool Try.underlying4 _), (trodAll_cons_mk (Below.trod laidOut (by kernel_rfl) (of_decide_eq_true (by kernel_rfl)) k0 bel lt0) (trodAll_cons_mk (Below.trod laidOut (by kernel_rfl) (of_decide_eq_true (by kernel_rfl)) k1 bel lt1) trodAll_mk0)), rfl, bel.frame _, fun h => by cases h⟩
theorem over : Rows.tableOverRow.holds Try.pinned (OpenSpec.ofChange Rows.tableOverSpec) :=
  OpenClaim.holds_of_wide 10 Try.f10 rfl rfl rfl rfl rfl rfl rfl ⟨rfl, rfl, rfl, rfl, rfl⟩ rfl rfl rfl rfl rfl (by kernel_rfl) Try.func10 (by kernel_rfl)
    (of_decide_eq_true (by kernel_rfl)) (by unfold Func.isWrapper; first | (rw [if_pos (by decide +kernel)]; kernel_rfl) | (rw [if_neg (by decide +kernel)]; exact ⟨rfl, rfl⟩))
    (fun os started H enc _ => lifted os started H enc)
theorem proved : Rows.TableOverSaid := over
#print axioms proved
end Go.Proofs.Ythcfmdkhkikbcaa.tableOver
namespace Go.Proofs.Ythcfmdkhkikbcaa
theorem tableOver_holds : Rows.TableOverSaid := tableOver.proved
end Go.Proofs.Ythcfmdkhkikbcaa
