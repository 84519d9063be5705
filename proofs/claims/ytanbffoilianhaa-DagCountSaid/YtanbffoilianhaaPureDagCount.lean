/- The plain law behind DagCount: about the printed functions alone, no memory and no Go in it. -/
import Derived.Test.YtanbffoilianhaaPureB
import Derived.Test.YtanbffoilianhaaPureW
import Derived.Test.YtanbffoilianhaaE13
namespace Go.Proofs.Ytanbffoilianhaa.Pure
open Go.RowKit Go.Proofs.YtanbffoilianhaaW.PrintWords Go.Proofs.Ytanbffoilianhaa.E
set_option linter.unusedVariables false
set_option linter.unusedSimpArgs false
theorem dagCount_ev (a : Int) (l : List S69) : Ev (fun k => ancepslaw09_DagCount.f k a l) true := by
  refine Ev.bind awake_ev ?_
  simp only [if_pos rfl]
  have hj1 : Ev (fun k => ancepslaw09_DagCount.j0 k true a l) true :=
    Ev.step (fun k => by rw [ancepslaw09_DagCount.j0, if_pos rfl]) awake_bind
  have hj : Ev (fun k => ancepslaw09_DagCount.j0 k false a l) true := by
    refine Ev.step (fun k => by rw [ancepslaw09_DagCount.j0, if_neg (by simp)]) ?_
    refine Ev.bind (dcount_ev a l) ?_
    refine Ev.bind (rcount_ev a l) ?_
    simp only [beq_self_eq_true, if_true]
    exact Ev.now _
  obtain ⟨b, hb, -⟩ := few_some a l
  simp only [hb, Option.bind_some]
  cases b <;> assumption
theorem DagCount (a0_0 : Int) (l0_1 : List (S69)) (w_a0_0 : (Lit.int .i64 a0_0).wf = true) (w_l0_1 : ∀ x, x ∈ l0_1 → (Lit.int .i64 x.f0).wf = true ∧ (Lit.int .i64 x.f1).wf = true ∧ (Lit.int .i64 x.f2).wf = true) : ∃ k, E.ancepslaw09_DagCount.f k a0_0 l0_1 = some true := ev_rounds (dagCount_ev a0_0 l0_1)
end Go.Proofs.Ytanbffoilianhaa.Pure
