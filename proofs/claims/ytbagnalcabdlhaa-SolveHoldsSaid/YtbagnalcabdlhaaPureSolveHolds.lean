/- The plain law behind SolveHolds: about the printed functions alone, no memory and no Go in it. -/
import Derived.Test.YtbagnalcabdlhaaPureH
namespace Go.Proofs.Ytbagnalcabdlhaa.Pure
open Go.RowKit Go.Proofs.YtbagnalcabdlhaaW.PrintWords Go.Proofs.Ytbagnalcabdlhaa.S
set_option linter.unusedVariables false
set_option linter.unusedSimpArgs false
theorem SolveHolds (l0 : List (S61)) (a1 : Int) (w_l0 : ∀ x, x ∈ l0 → (∀ y, y ∈ x.f0 → (Lit.int .i64 y).wf = true) ∧ (∀ y, y ∈ x.f1 → (Lit.int .i64 y).wf = true)) (w_a1 : (Lit.int .i64 a1).wf = true) : ∃ k, S.ancepslaw40_SolveHolds.f k l0 a1 = some true := ev_rounds (solveHolds_ev l0 a1)
end Go.Proofs.Ytbagnalcabdlhaa.Pure
