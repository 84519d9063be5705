/- The plain law behind DagValid: about the printed functions alone, no memory and no Go in it. -/
import Derived.Test.YtanbffoilianhaaPureR
import Derived.Test.YtanbffoilianhaaPureW
import Derived.Test.YtanbffoilianhaaE16
namespace Go.Proofs.Ytanbffoilianhaa.Pure
open Go.RowKit Go.Proofs.YtanbffoilianhaaW.PrintWords Go.Proofs.Ytanbffoilianhaa.E
set_option linter.unusedVariables false
set_option linter.unusedSimpArgs false
theorem dagValid_ev (a : Int) (l : List S69) : Ev (fun k => ancepslaw09_DagValid.f k a l) true := by
  refine Ev.bind awake_ev (ev_pos rfl ?_)
  have hj1 : Ev (fun k => ancepslaw09_DagValid.j0 k true a l) true :=
    Ev.step (fun k => by rw [ancepslaw09_DagValid.j0, if_pos rfl]) awake_bind
  by_cases hg : (l.length : Int) > 120
  · rw [decide_eq_true hg]; exact hj1
  rw [decide_eq_false hg]
  refine Ev.step (fun k => by rw [ancepslaw09_DagValid.j0, if_neg (by simp)]) ?_
  have ho : ancepslaw09_own.f a l = some (a, l) := by
    unfold ancepslaw09_own.f api_Arc_63.f
    simp only [Option.bind_some, List.length_nil, List.nil_append, if_pos (show 0 + l.length < 5864062014805 by omega)]
  simp only [ho, Option.bind_some]
  refine Ev.bind (drev_ev a l) (Ev.bind (rrev_ev a l) (Ev.bind (valid_ev a l) (Ev.bind (rvalid_ev a l) (ev_pos rfl (ev_pos rfl (Ev.bind (same_ev _ _ ?_) ?_))))))
  · have := rev_le a l; omega
  refine Ev.step (fun k => by rw [ancepslaw09_DagValid.j1, if_neg (by simp)]) ?_
  by_cases h : (rev a l).2.2 = 0
  · refine ev_pos h (Ev.bind (drev_ev _ _) ?_)
    rw [rev_two h]
    exact ev_pos rfl (Ev.bind (same_ev a l (by omega)) (Ev.now _))
  · exact ev_neg h (Ev.now _)
theorem DagValid (a0_0 : Int) (l0_1 : List (S69)) (w_a0_0 : (Lit.int .i64 a0_0).wf = true) (w_l0_1 : ∀ x, x ∈ l0_1 → (Lit.int .i64 x.f0).wf = true ∧ (Lit.int .i64 x.f1).wf = true ∧ (Lit.int .i64 x.f2).wf = true) : ∃ k, E.ancepslaw09_DagValid.f k a0_0 l0_1 = some true := ev_rounds (dagValid_ev a0_0 l0_1)
end Go.Proofs.Ytanbffoilianhaa.Pure
