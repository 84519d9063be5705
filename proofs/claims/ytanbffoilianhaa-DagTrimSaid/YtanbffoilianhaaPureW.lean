/- The plain law behind W: about the printed functions alone, no memory and no Go in it. -/
import Derived.Test.YtanbffoilianhaaPureA
import Derived.Test.YtanbffoilianhaaE6
import Derived.Test.YtanbffoilianhaaE8
namespace Go.Proofs.Ytanbffoilianhaa.Pure
open Go.RowKit Go.Proofs.YtanbffoilianhaaW.PrintWords Go.Proofs.Ytanbffoilianhaa.E
set_option linter.unusedVariables false
set_option linter.unusedSimpArgs false
theorem awake_ev : Ev (fun k => ancepslaw09_awake.f k) true := Ev.of (fun k => ancepslaw09_awake.mono k) (k := 40) (by kernel_rfl)
theorem few_some (a : Int) (l : List S69) : ∃ b, ancepsref09_Few.f a l = some b ∧ (b = true → (l.length : Int) ≤ 120 ∧ (a ≤ 40 ∨ 2000 < a)) := by
  unfold ancepsref09_Few.f
  by_cases h1 : (l.length : Int) ≤ 120
  · rw [if_pos h1]
    by_cases h2 : a ≤ 40
    · rw [if_pos h2]; exact ⟨_, rfl, fun _ => ⟨h1, .inl h2⟩⟩
    · rw [if_neg h2]; exact ⟨_, rfl, fun h => ⟨h1, .inr (by simpa using h)⟩⟩
  · rw [if_neg h1]; exact ⟨_, rfl, fun h => by simp at h⟩
theorem awake_bind : Ev (fun k => (ancepslaw09_awake.f k).bind fun t => some t) true := Ev.bind awake_ev (Ev.now _)
end Go.Proofs.Ytanbffoilianhaa.Pure
