/- The plain law behind SolveRefute: about the printed functions alone, no memory and no Go in it. -/
import Derived.Test.YtbagnalcabdlhaaPureV
namespace Go.Proofs.Ytbagnalcabdlhaa.Pure
open Go.RowKit Go.Proofs.YtbagnalcabdlhaaW.PrintWords Go.Proofs.Ytbagnalcabdlhaa.S
set_option linter.unusedVariables false
set_option linter.unusedSimpArgs false
theorem SolveRefute (l0 : List (S61)) (w_l0 : ∀ x, x ∈ l0 → (∀ y, y ∈ x.f0 → (Lit.int .i64 y).wf = true) ∧ (∀ y, y ∈ x.f1 → (Lit.int .i64 y).wf = true)) : ∃ k, S.ancepslaw40_SolveRefute.f k l0 = some true := ev_rounds (solveRefute_ev l0)
end Go.Proofs.Ytbagnalcabdlhaa.Pure
