/- The plain law behind A: about the printed functions alone, no memory and no Go in it. -/
import Derived.Test.YtanbffoilianhaaPureEv
import Derived.Test.YtanbffoilianhaaE3
import Derived.Test.YtanbffoilianhaaE7
namespace Go.Proofs.Ytanbffoilianhaa.Pure
open Go.RowKit Go.Proofs.YtanbffoilianhaaW.PrintWords Go.Proofs.Ytanbffoilianhaa.E
set_option linter.unusedVariables false
set_option linter.unusedSimpArgs false
/-! ### Valid, Check, Cost: what both sides compute -/
def vl (a : Int) : List S69 → Int
  | [] => 0
  | x :: xs => if x.f0 < 0 ∨ a ≤ x.f0 ∨ x.f1 < 0 ∨ a ≤ x.f1 ∨ x.f2 < 0 ∨ 1000000 < x.f2 then 6 else if x.f1 ≤ x.f0 then 18 else vl a xs
def valid (a : Int) (l : List S69) : Int := if a < 1 then 7 else if 2000 < a then 3 else if 6000 < (l.length : Int) then 3 else vl a l
def ck (a : Int) (l : List S69) (at_ : Int) : List Int → Bool
  | [] => at_ == wrap64 (a - 1)
  | p :: ps => if p < 0 ∨ (l.length : Int) ≤ p then false else if (rd_T69 l p).f0 = at_ then ck a l (rd_T69 l p).f1 ps else false
def sm (l : List S69) (s : Int) : List Int → Int
  | [] => s
  | p :: ps => sm l (wrap64 (s + (rd_T69 l p).f2)) ps

theorem rdT_at (l : List S69) (i : Nat) (hi : i < l.length) : l.drop i = rd_T69 l i :: l.drop (i + 1) := getD_drop l i z69 hi
theorem rd_at (l : List Int) (i : Nat) (hi : i < l.length) : l.drop i = rd l i :: l.drop (i + 1) := getD_drop l i 0 hi

theorem valid_loop (a : Int) (l : List S69) (hl : (l.length : Int) ≤ 9223372036854775807) : ∀ n i : Nat, i + n = l.length → Ev (fun k => dag_Valid.l0 k l l.length i a l) (vl a (l.drop i))
  | 0, i, h => by
    have hi : l.drop i = [] := List.drop_eq_nil_of_le (by omega)
    rw [hi]
    refine Ev.step (f := fun _ => some 0) (fun k => ?_) (Ev.now _)
    rw [dag_Valid.l0, if_neg (by omega)]
  | n + 1, i, h => by
    have hi : i < l.length := by omega
    rw [rdT_at l i hi]
    have ih := valid_loop a l hl n (i + 1) (by omega)
    have hw := wrap_succ i l.length hi hl
    have tail : ∀ b : Bool, Ev (fun k => dag_Valid.j1 k l l.length i b a l (rd_T69 l i).f0 (rd_T69 l i).f1 (rd_T69 l i).f2) (if b = true then 6 else if (rd_T69 l i).f1 ≤ (rd_T69 l i).f0 then 18 else vl a (l.drop (i + 1))) := by
      intro b
      cases b with
      | true => exact Ev.step (f := fun _ => some 6) (fun k => by rw [dag_Valid.j1, if_pos rfl]) (Ev.now _)
      | false =>
        by_cases h1 : (rd_T69 l i).f1 ≤ (rd_T69 l i).f0
        · rw [if_neg (by simp), if_pos h1]
          exact Ev.step (f := fun _ => some 18) (fun k => by rw [dag_Valid.j1, if_neg (by simp), if_pos h1]) (Ev.now _)
        · rw [if_neg (by simp), if_neg h1]
          exact Ev.step (f := fun k => dag_Valid.l0 k l l.length ((i + 1 : Nat) : Int) a l) (fun k => by rw [dag_Valid.j1, if_neg (by simp), if_neg h1, hw]) ih
    have hb : (if (rd_T69 l i).f0 < 0 ∨ a ≤ (rd_T69 l i).f0 ∨ (rd_T69 l i).f1 < 0 ∨ a ≤ (rd_T69 l i).f1 ∨ (rd_T69 l i).f2 < 0 ∨ 1000000 < (rd_T69 l i).f2 then (6 : Int) else if (rd_T69 l i).f1 ≤ (rd_T69 l i).f0 then 18 else vl a (l.drop (i + 1))) =
        (if (decide ((rd_T69 l i).f0 < 0 ∨ a ≤ (rd_T69 l i).f0 ∨ (rd_T69 l i).f1 < 0 ∨ a ≤ (rd_T69 l i).f1 ∨ (rd_T69 l i).f2 < 0 ∨ 1000000 < (rd_T69 l i).f2)) = true then (6 : Int) else if (rd_T69 l i).f1 ≤ (rd_T69 l i).f0 then 18 else vl a (l.drop (i + 1))) := by
      simp only [decide_eq_true_eq]
    rw [vl, hb]
    refine Ev.step (fun k => ?_) (tail _)
    rw [dag_Valid.l0, if_pos (by omega), if_pos (by omega), if_pos (by omega)]
    generalize rd_T69 l i = x
    simp only [dag_Valid_1_v1.f]
    by_cases h0 : x.f0 < 0
    · simp [h0, show ¬ (0 ≤ x.f0) by omega]
    · by_cases h1 : a ≤ x.f0
      · simp [h1, show ¬ (x.f0 < a) by omega, show 0 ≤ x.f0 by omega]
      · by_cases h2 : x.f1 < 0
        · simp [h2, show (x.f0 < a) by omega, show 0 ≤ x.f0 by omega, show ¬ (0 ≤ x.f1) by omega]
        · by_cases h3 : a ≤ x.f1
          · simp [h3, show (x.f0 < a) by omega, show 0 ≤ x.f0 by omega, show (0 ≤ x.f1) by omega, show ¬ x.f1 < a by omega]
          · by_cases h4 : x.f2 < 0
            · simp [h4, show (x.f0 < a) by omega, show 0 ≤ x.f0 by omega, show (0 ≤ x.f1) by omega, show x.f1 < a by omega]
            · simp [h0, h1, h2, h3, h4, show (x.f0 < a) by omega, show 0 ≤ x.f0 by omega, show (0 ≤ x.f1) by omega, show x.f1 < a by omega]
theorem valid_ev (a : Int) (l : List S69) : Ev (fun k => dag_Valid.f k a l) (valid a l) := by
  unfold dag_Valid.f valid
  by_cases h0 : a < 1
  · simp only [if_pos h0]; exact Ev.now _
  · simp only [if_neg h0]
    by_cases h1 : a > 2000
    · simp only [if_pos h1, if_pos (show 2000 < a from h1)]; exact Ev.now _
    · simp only [if_neg h1, if_neg (show ¬ 2000 < a from h1)]
      by_cases h2 : (l.length : Int) > 6000
      · simp only [if_pos h2, if_pos (show 6000 < (l.length : Int) from h2)]; exact Ev.now _
      · simp only [if_neg h2, if_neg (show ¬ 6000 < (l.length : Int) from h2)]
        have := valid_loop a l (by omega) l.length 0 (by omega)
        simpa using this
theorem rvalid_loop (a : Int) (l : List S69) (hl : (l.length : Int) ≤ 9223372036854775807) : ∀ n i : Nat, i + n = l.length → Ev (fun k => ancepsref09_Valid.l0 k i a l) (vl a (l.drop i))
  | 0, i, h => by
    have hi : l.drop i = [] := List.drop_eq_nil_of_le (by omega)
    rw [hi]
    refine Ev.step (f := fun _ => some 0) (fun k => ?_) (Ev.now _)
    rw [ancepsref09_Valid.l0, if_neg (by omega)]
  | n + 1, i, h => by
    have hi : i < l.length := by omega
    rw [rdT_at l i hi]
    have ih := rvalid_loop a l hl n (i + 1) (by omega)
    have hw := wrap_succ i l.length hi hl
    have tail : ∀ b : Bool, Ev (fun k => ancepsref09_Valid.j2 k i b a l (rd_T69 l i).f0 (rd_T69 l i).f1 (rd_T69 l i).f2) (if b = true then 6 else if (rd_T69 l i).f1 ≤ (rd_T69 l i).f0 then 18 else vl a (l.drop (i + 1))) := by
      intro b
      cases b with
      | true => exact Ev.step (f := fun _ => some 6) (fun k => by rw [ancepsref09_Valid.j2, if_pos rfl]) (Ev.now _)
      | false =>
        by_cases h1 : (rd_T69 l i).f1 ≤ (rd_T69 l i).f0
        · rw [if_neg (by simp), if_pos h1]
          exact Ev.step (f := fun _ => some 18) (fun k => by rw [ancepsref09_Valid.j2, if_neg (by simp), if_pos h1]) (Ev.now _)
        · rw [if_neg (by simp), if_neg h1]
          exact Ev.step (f := fun k => ancepsref09_Valid.l0 k ((i + 1 : Nat) : Int) a l) (fun k => by rw [ancepsref09_Valid.j2, if_neg (by simp), if_neg h1, hw]) ih
    have hb : (if (rd_T69 l i).f0 < 0 ∨ a ≤ (rd_T69 l i).f0 ∨ (rd_T69 l i).f1 < 0 ∨ a ≤ (rd_T69 l i).f1 ∨ (rd_T69 l i).f2 < 0 ∨ 1000000 < (rd_T69 l i).f2 then (6 : Int) else if (rd_T69 l i).f1 ≤ (rd_T69 l i).f0 then 18 else vl a (l.drop (i + 1))) =
        (if (decide ((rd_T69 l i).f0 < 0 ∨ a ≤ (rd_T69 l i).f0 ∨ (rd_T69 l i).f1 < 0 ∨ a ≤ (rd_T69 l i).f1 ∨ (rd_T69 l i).f2 < 0 ∨ 1000000 < (rd_T69 l i).f2)) = true then (6 : Int) else if (rd_T69 l i).f1 ≤ (rd_T69 l i).f0 then 18 else vl a (l.drop (i + 1))) := by
      simp only [decide_eq_true_eq]
    rw [vl, hb]
    refine Ev.step (fun k => ?_) (tail _)
    rw [ancepsref09_Valid.l0, if_pos (by omega), if_pos (by omega)]
    generalize rd_T69 l i = x
    by_cases h0 : x.f0 < 0
    · simp [h0]
    · by_cases h1 : a ≤ x.f0
      · simp [h0, h1]
      · by_cases h2 : x.f1 < 0
        · simp [h0, h1, h2]
        · by_cases h3 : a ≤ x.f1
          · simp [h0, h1, h2, h3]
          · by_cases h4 : x.f2 < 0
            · simp [h0, h1, h2, h3, h4]
            · simp [h0, h1, h2, h3, h4]
theorem rvalid_ev (a : Int) (l : List S69) : Ev (fun k => ancepsref09_Valid.f k a l) (valid a l) := by
  unfold ancepsref09_Valid.f valid
  by_cases h0 : a < 1
  · simp only [if_pos h0]; exact Ev.now _
  · simp only [if_neg h0]
    by_cases h1 : a > 2000
    · simp only [if_pos h1, if_pos (show 2000 < a from h1)]
      exact Ev.step (f := fun _ => some 3) (fun k => by rw [ancepsref09_Valid.j0, if_pos rfl]) (Ev.now _)
    · simp only [if_neg h1, if_neg (show ¬ 2000 < a from h1)]
      by_cases h2 : (l.length : Int) > 6000
      · simp only [if_pos (show 6000 < (l.length : Int) from h2)]
        exact Ev.step (f := fun _ => some 3) (fun k => by rw [ancepsref09_Valid.j0, if_pos (by simpa using h2)]) (Ev.now _)
      · simp only [if_neg (show ¬ 6000 < (l.length : Int) from h2)]
        have := rvalid_loop a l (by omega) l.length 0 (by omega)
        exact Ev.step (f := fun k => ancepsref09_Valid.l0 k 0 a l) (fun k => by rw [ancepsref09_Valid.j0, if_neg (by simpa using h2)]) (by simpa using this)

theorem check_loop (a : Int) (l : List S69) (ps : List Int) (hl : (ps.length : Int) ≤ 9223372036854775807) : ∀ (n i : Nat) (at_ : Int), i + n = ps.length → Ev (fun k => dag_Check.l0 k at_ ps ps.length i a l) (ck a l at_ (ps.drop i))
  | 0, i, at_, h => by
    rw [List.drop_eq_nil_of_le (by omega)]
    refine Ev.step (f := fun _ => some (at_ == wrap64 (a - 1))) (fun k => ?_) (Ev.now _)
    rw [dag_Check.l0, if_neg (by omega)]
  | n + 1, i, at_, h => by
    have hi : i < ps.length := by omega
    rw [rd_at ps i hi]
    have hw := wrap_succ i ps.length hi hl
    have ih := check_loop a l ps hl n (i + 1) (rd_T69 l (rd ps i)).f1 (by omega)
    rw [ck]
    by_cases h0 : rd ps i < 0
    · rw [if_pos (.inl h0)]
      exact Ev.step (f := fun _ => some false) (fun k => by rw [dag_Check.l0, if_pos (by omega), if_pos (by omega), if_pos (by omega), if_pos h0]) (Ev.now _)
    · by_cases h1 : (l.length : Int) ≤ rd ps i
      · rw [if_pos (.inr h1)]
        exact Ev.step (f := fun _ => some false) (fun k => by rw [dag_Check.l0, if_pos (by omega), if_pos (by omega), if_pos (by omega), if_neg h0, if_pos (show rd ps i ≥ _ from h1)]) (Ev.now _)
      · rw [if_neg (by omega)]
        by_cases h2 : (rd_T69 l (rd ps i)).f0 = at_
        · rw [if_pos h2]
          exact Ev.step (f := fun k => dag_Check.l0 k (rd_T69 l (rd ps i)).f1 ps ps.length ((i + 1 : Nat) : Int) a l) (fun k => by rw [dag_Check.l0, if_pos (by omega), if_pos (by omega), if_pos (by omega), if_neg h0, if_neg (show ¬ rd ps i ≥ _ from h1), if_pos (by omega), if_pos (by omega), if_pos h2, hw]) ih
        · rw [if_neg h2]
          exact Ev.step (f := fun _ => some false) (fun k => by rw [dag_Check.l0, if_pos (by omega), if_pos (by omega), if_pos (by omega), if_neg h0, if_neg (show ¬ rd ps i ≥ _ from h1), if_pos (by omega), if_pos (by omega), if_neg h2]) (Ev.now _)
def check (a : Int) (l : List S69) (ps : List Int) : Bool := if valid a l = 0 then ck a l 0 ps else false
theorem check_ev (a : Int) (l : List S69) (ps : List Int) (hl : (ps.length : Int) ≤ 9223372036854775807) : Ev (fun k => dag_Check.f k a l ps) (check a l ps) := by
  refine Ev.bind (valid_ev a l) ?_
  unfold check
  by_cases h : valid a l = 0
  · simp only [if_pos h]
    have := check_loop a l ps hl ps.length 0 0 (by omega)
    simpa using this
  · simp only [if_neg h]; exact Ev.now _
theorem ck_in (a : Int) (l : List S69) : ∀ (ps : List Int) (at_ : Int), ck a l at_ ps = true → ∀ p, p ∈ ps → 0 ≤ p ∧ p < l.length
  | [], _, _, p, hp => by simp at hp
  | q :: ps, at_, h, p, hp => by
    rw [ck] at h
    by_cases h0 : q < 0 ∨ (l.length : Int) ≤ q
    · rw [if_pos h0] at h; exact absurd h (by simp)
    · rw [if_neg h0] at h
      by_cases h1 : (rd_T69 l q).f0 = at_
      · rw [if_pos h1] at h
        rcases List.mem_cons.1 hp with rfl | hp
        · omega
        · exact ck_in a l ps _ h p hp
      · rw [if_neg h1] at h; exact absurd h (by simp)
theorem rd_mem (ps : List Int) (i : Nat) (hi : i < ps.length) : rd ps i ∈ ps := by
  unfold rd
  simp only [Int.toNat_natCast, List.getD, List.getElem?_eq_getElem hi, Option.getD_some]
  exact List.getElem_mem hi
end Go.Proofs.Ytanbffoilianhaa.Pure
