/- The plain law behind K: about the printed functions alone, no memory and no Go in it. -/
import Derived.Test.YtanbffoilianhaaPureA
import Derived.Test.YtanbffoilianhaaE9
namespace Go.Proofs.Ytanbffoilianhaa.Pure
open Go.RowKit Go.Proofs.YtanbffoilianhaaW.PrintWords Go.Proofs.Ytanbffoilianhaa.E
set_option linter.unusedVariables false
set_option linter.unusedSimpArgs false
/-! ### Check and Cost of the reference, Cost -/
theorem rcheck_loop (a : Int) (l : List S69) (ps : List Int) (hl : (ps.length : Int) ≤ 9223372036854775807) : ∀ (n i : Nat) (at_ : Int), i + n = ps.length → Ev (fun k => ancepsref09_Check.l0 k ps at_ i a l) (ck a l at_ (ps.drop i))
  | 0, i, at_, h => by
    rw [List.drop_eq_nil_of_le (by omega)]
    refine Ev.step (f := fun _ => some (at_ == wrap64 (a - 1))) (fun k => ?_) (Ev.now _)
    rw [ancepsref09_Check.l0, if_neg (by omega)]
  | n + 1, i, at_, h => by
    have hi : i < ps.length := by omega
    rw [rd_at ps i hi]
    have hw := wrap_succ i ps.length hi hl
    have ih := rcheck_loop a l ps hl n (i + 1) (rd_T69 l (rd ps i)).f1 (by omega)
    rw [ck]
    by_cases h0 : rd ps i < 0
    · rw [if_pos (.inl h0)]
      exact Ev.step (f := fun _ => some false) (fun k => by rw [ancepsref09_Check.l0, if_pos (by omega), if_pos (by omega), if_pos h0]) (Ev.now _)
    · by_cases h1 : (l.length : Int) ≤ rd ps i
      · rw [if_pos (.inr h1)]
        exact Ev.step (f := fun _ => some false) (fun k => by rw [ancepsref09_Check.l0, if_pos (by omega), if_pos (by omega), if_neg h0, if_pos (show rd ps i ≥ _ from h1)]) (Ev.now _)
      · rw [if_neg (by omega)]
        by_cases h2 : (rd_T69 l (rd ps i)).f0 = at_
        · rw [if_pos h2]
          exact Ev.step (f := fun k => ancepsref09_Check.l0 k ps (rd_T69 l (rd ps i)).f1 ((i + 1 : Nat) : Int) a l) (fun k => by rw [ancepsref09_Check.l0, if_pos (by omega), if_pos (by omega), if_neg h0, if_neg (show ¬ rd ps i ≥ _ from h1), if_pos (by omega), if_pos (by omega), if_pos h2, hw]) ih
        · rw [if_neg h2]
          exact Ev.step (f := fun _ => some false) (fun k => by rw [ancepsref09_Check.l0, if_pos (by omega), if_pos (by omega), if_neg h0, if_neg (show ¬ rd ps i ≥ _ from h1), if_pos (by omega), if_pos (by omega), if_neg h2]) (Ev.now _)
theorem rcheck_ev (a : Int) (l : List S69) (ps : List Int) (hl : (ps.length : Int) ≤ 9223372036854775807) : Ev (fun k => ancepsref09_Check.f k a l ps) (check a l ps) := by
  refine Ev.bind (rvalid_ev a l) ?_
  unfold check
  by_cases h : valid a l = 0
  · simp only [if_pos h]
    have := rcheck_loop a l ps hl ps.length 0 0 (by omega)
    simpa using this
  · simp only [if_neg h]; exact Ev.now _
theorem cost_loop (a : Int) (l : List S69) (ps : List Int) (hl : (ps.length : Int) ≤ 9223372036854775807) (hp : ∀ p, p ∈ ps → 0 ≤ p ∧ p < (l.length : Int)) : ∀ (n i : Nat) (s : Int), i + n = ps.length → Ev (fun k => dag_Cost.l0 k s ps ps.length i a l) (sm l s (ps.drop i), 0)
  | 0, i, s, h => by
    rw [List.drop_eq_nil_of_le (by omega)]
    refine Ev.step (f := fun _ => some (s, 0)) (fun k => ?_) (Ev.now _)
    rw [dag_Cost.l0, if_neg (by omega)]
  | n + 1, i, s, h => by
    have hi : i < ps.length := by omega
    have hw := wrap_succ i ps.length hi hl
    have hr := hp _ (rd_mem ps i hi)
    rw [rd_at ps i hi, sm]
    have ih := cost_loop a l ps hl hp n (i + 1) (wrap64 (s + (rd_T69 l (rd ps i)).f2)) (by omega)
    exact Ev.step (f := fun k => dag_Cost.l0 k (wrap64 (s + (rd_T69 l (rd ps i)).f2)) ps ps.length ((i + 1 : Nat) : Int) a l) (fun k => by rw [dag_Cost.l0, if_pos (by omega), if_pos (by omega), if_pos (by omega), if_pos hr.1, if_pos hr.2, hw]) ih
theorem sum_loop (a : Int) (l : List S69) (ps : List Int) (hl : (ps.length : Int) ≤ 9223372036854775807) (hp : ∀ p, p ∈ ps → 0 ≤ p ∧ p < (l.length : Int)) : ∀ (n i : Nat) (s : Int), i + n = ps.length → Ev (fun k => ancepsref09_Sum.l0 k ps s i a l) (sm l s (ps.drop i))
  | 0, i, s, h => by
    rw [List.drop_eq_nil_of_le (by omega)]
    refine Ev.step (f := fun _ => some s) (fun k => ?_) (Ev.now _)
    rw [ancepsref09_Sum.l0, if_neg (by omega)]
  | n + 1, i, s, h => by
    have hi : i < ps.length := by omega
    have hw := wrap_succ i ps.length hi hl
    have hr := hp _ (rd_mem ps i hi)
    rw [rd_at ps i hi, sm]
    have ih := sum_loop a l ps hl hp n (i + 1) (wrap64 (s + (rd_T69 l (rd ps i)).f2)) (by omega)
    exact Ev.step (f := fun k => ancepsref09_Sum.l0 k ps (wrap64 (s + (rd_T69 l (rd ps i)).f2)) ((i + 1 : Nat) : Int) a l) (fun k => by rw [ancepsref09_Sum.l0, if_pos (by omega), if_pos (by omega), if_pos hr.1, if_pos hr.2, hw]) ih
def cost (a : Int) (l : List S69) (ps : List Int) : Int × Int := if valid a l = 0 then if check a l ps = true then (sm l 0 ps, 0) else (0, 1) else (0, valid a l)
theorem check_in {a : Int} {l : List S69} {ps : List Int} (h : check a l ps = true) : ∀ p, p ∈ ps → 0 ≤ p ∧ p < (l.length : Int) := by
  unfold check at h
  by_cases hv : valid a l = 0
  · rw [if_pos hv] at h; exact ck_in a l ps 0 h
  · rw [if_neg hv] at h; exact absurd h (by simp)
theorem cost_ev (a : Int) (l : List S69) (ps : List Int) (hl : (ps.length : Int) ≤ 9223372036854775807) : Ev (fun k => dag_Cost.f k a l ps) (cost a l ps) := by
  refine Ev.bind (valid_ev a l) ?_
  unfold cost
  by_cases h : valid a l = 0
  · simp only [if_pos h]
    refine Ev.bind (check_ev a l ps hl) ?_
    by_cases hc : check a l ps = true
    · simp only [if_pos hc]
      have := cost_loop a l ps hl (check_in hc) ps.length 0 0 (by omega)
      simpa using this
    · simp only [if_neg hc]; exact Ev.now _
  · simp only [if_neg h]; exact Ev.now _
theorem rcost_ev (a : Int) (l : List S69) (ps : List Int) (hl : (ps.length : Int) ≤ 9223372036854775807) : Ev (fun k => ancepsref09_Cost.f k a l ps) (cost a l ps) := by
  refine Ev.bind (rvalid_ev a l) ?_
  unfold cost
  by_cases h : valid a l = 0
  · simp only [if_pos h]
    refine Ev.bind (rcheck_ev a l ps hl) ?_
    by_cases hc : check a l ps = true
    · simp only [if_pos hc]
      have := sum_loop a l ps hl (check_in hc) ps.length 0 0 (by omega)
      refine Ev.bind (g := fun k => ancepsref09_Sum.f k a l ps) (a := sm l 0 ps) (by show Ev (fun k => ancepsref09_Sum.l0 k ps 0 0 a l) _; simpa using this) (Ev.now _)
    · simp only [if_neg hc]; exact Ev.now _
  · simp only [if_neg h]; exact Ev.now _
end Go.Proofs.Ytanbffoilianhaa.Pure
