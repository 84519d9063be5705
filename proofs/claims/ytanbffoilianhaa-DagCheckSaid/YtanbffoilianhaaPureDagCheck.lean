/- The plain law behind DagCheck: about the printed functions alone, no memory and no Go in it. -/
import Derived.Test.YtanbffoilianhaaPureK
import Derived.Test.YtanbffoilianhaaPureW
namespace Go.Proofs.Ytanbffoilianhaa.Pure
open Go.RowKit Go.Proofs.YtanbffoilianhaaW.PrintWords Go.Proofs.Ytanbffoilianhaa.E
set_option linter.unusedVariables false
set_option linter.unusedSimpArgs false
theorem dagCheck_ev (a : Int) (l : List S69) (ps : List Int) : Ev (fun k => ancepslaw09_DagCheck.f k a l ps) true := by
  refine Ev.bind awake_ev ?_
  simp only [if_pos rfl]
  have hj1 : Ev (fun k => ancepslaw09_DagCheck.j0 k ps true a l) true := by
    refine Ev.step (f := fun k => (ancepslaw09_awake.f k).bind fun t => some t) (fun k => by rw [ancepslaw09_DagCheck.j0, if_pos rfl]) ?_
    exact Ev.bind awake_ev (Ev.now _)
  have hj : (ps.length : Int) ≤ 60 → Ev (fun k => ancepslaw09_DagCheck.j0 k ps false a l) true := by
    intro hl
    have hl' : (ps.length : Int) ≤ 9223372036854775807 := by omega
    refine Ev.step (fun k => by rw [ancepslaw09_DagCheck.j0, if_neg (by simp)]) ?_
    refine Ev.bind (cost_ev a l ps hl') ?_
    refine Ev.bind (rcost_ev a l ps hl') ?_
    refine Ev.bind (check_ev a l ps hl') ?_
    refine Ev.bind (rcheck_ev a l ps hl') ?_
    simp only [beq_self_eq_true, if_true]
    exact Ev.now _
  have hf : ∀ b : Bool, Ev (fun k => if b = true then ancepslaw09_DagCheck.j0 k ps (decide ((ps.length : Int) > 60)) a l else ancepslaw09_DagCheck.j0 k ps true a l) true := by
    intro b
    cases b
    · simpa using hj1
    · by_cases hg : (ps.length : Int) > 60
      · rw [show decide ((ps.length : Int) > 60) = true from decide_eq_true hg]
        simpa using hj1
      · rw [show decide ((ps.length : Int) > 60) = false from decide_eq_false hg]
        simpa using hj (by omega)
  unfold ancepsref09_Few.f
  by_cases h1 : (l.length : Int) ≤ 120
  · simp only [if_pos h1]
    by_cases h2 : a ≤ 40
    · simp only [if_pos h2]; exact hf true
    · simp only [if_neg h2]; exact hf _
  · simp only [if_neg h1]; exact hf false
theorem DagCheck (a0_0 : Int) (l0_1 : List (S69)) (l1 : List Int) (w_a0_0 : (Lit.int .i64 a0_0).wf = true) (w_l0_1 : ∀ x, x ∈ l0_1 → (Lit.int .i64 x.f0).wf = true ∧ (Lit.int .i64 x.f1).wf = true ∧ (Lit.int .i64 x.f2).wf = true) (w_l1 : ∀ x, x ∈ l1 → (Lit.int .i64 x).wf = true) : ∃ k, E.ancepslaw09_DagCheck.f k a0_0 l0_1 l1 = some true := ev_rounds (dagCheck_ev a0_0 l0_1 l1)
end Go.Proofs.Ytanbffoilianhaa.Pure
