/- The plain law behind Q1: about the printed functions alone, no memory and no Go in it. -/
import Derived.Test.YtanbffoilianhaaPureQEv
import Derived.Test.YtanbffoilianhaaF1
import Derived.Test.YtanbffoilianhaaF2
import Derived.Test.YtanbffoilianhaaF3
import Derived.Test.YtanbffoilianhaaF4
import Derived.Test.YtanbffoilianhaaF5
import Derived.Test.YtanbffoilianhaaF6
import Derived.Test.YtanbffoilianhaaF8
namespace Go.Proofs.Ytanbffoilianhaa.Pure
open Go.RowKit Go.Proofs.YtanbffoilianhaaW.PrintWords Go.Proofs.Ytanbffoilianhaa.F
set_option linter.unusedVariables false
set_option linter.unusedSimpArgs false
/-! ### Valid, Check, Cost: what both sides compute -/
def vl (a : Int) : List S69 → Int
  | [] => 0
  | x :: xs => if x.f0 < 0 ∨ a ≤ x.f0 ∨ x.f1 < 0 ∨ a ≤ x.f1 ∨ x.f2 < 0 ∨ 1000000 < x.f2 then 6 else if x.f1 ≤ x.f0 then 18 else vl a xs
def valid (a : Int) (l : List S69) : Int := if a < 1 then 7 else if 2000 < a then 3 else if 6000 < (l.length : Int) then 3 else vl a l
def ck (a : Int) (l : List S69) (at_ : Int) : List Int → Bool
  | [] => at_ == wrap64 (a - 1)
  | p :: ps => if p < 0 ∨ (l.length : Int) ≤ p then false else if (rd_T69 l p).f0 = at_ then ck a l (rd_T69 l p).f1 ps else false
def sm (l : List S69) (s : Int) : List Int → Int
  | [] => s
  | p :: ps => sm l (wrap64 (s + (rd_T69 l p).f2)) ps

theorem rdT_at (l : List S69) (i : Nat) (hi : i < l.length) : l.drop i = rd_T69 l i :: l.drop (i + 1) := getD_drop l i z69 hi
theorem rd_at (l : List Int) (i : Nat) (hi : i < l.length) : l.drop i = rd l i :: l.drop (i + 1) := getD_drop l i 0 hi

theorem valid_loop (a : Int) (l : List S69) (hl : (l.length : Int) ≤ 9223372036854775807) : ∀ n i : Nat, i + n = l.length → Ev (fun k => dag_Valid.l0 k l l.length i a l) (vl a (l.drop i))
  | 0, i, h => by
    have hi : l.drop i = [] := List.drop_eq_nil_of_le (by omega)
    rw [hi]
    refine Ev.step (f := fun _ => some 0) (fun k => ?_) (Ev.now _)
    rw [dag_Valid.l0, if_neg (by omega)]
  | n + 1, i, h => by
    have hi : i < l.length := by omega
    rw [rdT_at l i hi]
    have ih := valid_loop a l hl n (i + 1) (by omega)
    have hw := wrap_succ i l.length hi hl
    have tail : ∀ b : Bool, Ev (fun k => dag_Valid.j1 k l l.length i b a l (rd_T69 l i).f0 (rd_T69 l i).f1 (rd_T69 l i).f2) (if b = true then 6 else if (rd_T69 l i).f1 ≤ (rd_T69 l i).f0 then 18 else vl a (l.drop (i + 1))) := by
      intro b
      cases b with
      | true => exact Ev.step (f := fun _ => some 6) (fun k => by rw [dag_Valid.j1, if_pos rfl]) (Ev.now _)
      | false =>
        by_cases h1 : (rd_T69 l i).f1 ≤ (rd_T69 l i).f0
        · rw [if_neg (by simp), if_pos h1]
          exact Ev.step (f := fun _ => some 18) (fun k => by rw [dag_Valid.j1, if_neg (by simp), if_pos h1]) (Ev.now _)
        · rw [if_neg (by simp), if_neg h1]
          exact Ev.step (f := fun k => dag_Valid.l0 k l l.length ((i + 1 : Nat) : Int) a l) (fun k => by rw [dag_Valid.j1, if_neg (by simp), if_neg h1, hw]) ih
    have hb : (if (rd_T69 l i).f0 < 0 ∨ a ≤ (rd_T69 l i).f0 ∨ (rd_T69 l i).f1 < 0 ∨ a ≤ (rd_T69 l i).f1 ∨ (rd_T69 l i).f2 < 0 ∨ 1000000 < (rd_T69 l i).f2 then (6 : Int) else if (rd_T69 l i).f1 ≤ (rd_T69 l i).f0 then 18 else vl a (l.drop (i + 1))) =
        (if (decide ((rd_T69 l i).f0 < 0 ∨ a ≤ (rd_T69 l i).f0 ∨ (rd_T69 l i).f1 < 0 ∨ a ≤ (rd_T69 l i).f1 ∨ (rd_T69 l i).f2 < 0 ∨ 1000000 < (rd_T69 l i).f2)) = true then (6 : Int) else if (rd_T69 l i).f1 ≤ (rd_T69 l i).f0 then 18 else vl a (l.drop (i + 1))) := by
      simp only [decide_eq_true_eq]
    rw [vl, hb]
    refine Ev.step (fun k => ?_) (tail _)
    rw [dag_Valid.l0, if_pos (by omega), if_pos (by omega), if_pos (by omega)]
    generalize rd_T69 l i = x
    simp only [dag_Valid_1_v1.f]
    by_cases h0 : x.f0 < 0
    · simp [h0, show ¬ (0 ≤ x.f0) by omega]
    · by_cases h1 : a ≤ x.f0
      · simp [h1, show ¬ (x.f0 < a) by omega, show 0 ≤ x.f0 by omega]
      · by_cases h2 : x.f1 < 0
        · simp [h2, show (x.f0 < a) by omega, show 0 ≤ x.f0 by omega, show ¬ (0 ≤ x.f1) by omega]
        · by_cases h3 : a ≤ x.f1
          · simp [h3, show (x.f0 < a) by omega, show 0 ≤ x.f0 by omega, show (0 ≤ x.f1) by omega, show ¬ x.f1 < a by omega]
          · by_cases h4 : x.f2 < 0
            · simp [h4, show (x.f0 < a) by omega, show 0 ≤ x.f0 by omega, show (0 ≤ x.f1) by omega, show x.f1 < a by omega]
            · simp [h0, h1, h2, h3, h4, show (x.f0 < a) by omega, show 0 ≤ x.f0 by omega, show (0 ≤ x.f1) by omega, show x.f1 < a by omega]
theorem valid_ev (a : Int) (l : List S69) : Ev (fun k => dag_Valid.f k a l) (valid a l) := by
  unfold dag_Valid.f valid
  by_cases h0 : a < 1
  · simp only [if_pos h0]; exact Ev.now _
  · simp only [if_neg h0]
    by_cases h1 : a > 2000
    · simp only [if_pos h1, if_pos (show 2000 < a from h1)]; exact Ev.now _
    · simp only [if_neg h1, if_neg (show ¬ 2000 < a from h1)]
      by_cases h2 : (l.length : Int) > 6000
      · simp only [if_pos h2, if_pos (show 6000 < (l.length : Int) from h2)]; exact Ev.now _
      · simp only [if_neg h2, if_neg (show ¬ 6000 < (l.length : Int) from h2)]
        have := valid_loop a l (by omega) l.length 0 (by omega)
        simpa using this
theorem rvalid_loop (a : Int) (l : List S69) (hl : (l.length : Int) ≤ 9223372036854775807) : ∀ n i : Nat, i + n = l.length → Ev (fun k => ancepsref09_Valid.l0 k i a l) (vl a (l.drop i))
  | 0, i, h => by
    have hi : l.drop i = [] := List.drop_eq_nil_of_le (by omega)
    rw [hi]
    refine Ev.step (f := fun _ => some 0) (fun k => ?_) (Ev.now _)
    rw [ancepsref09_Valid.l0, if_neg (by omega)]
  | n + 1, i, h => by
    have hi : i < l.length := by omega
    rw [rdT_at l i hi]
    have ih := rvalid_loop a l hl n (i + 1) (by omega)
    have hw := wrap_succ i l.length hi hl
    have tail : ∀ b : Bool, Ev (fun k => ancepsref09_Valid.j2 k i b a l (rd_T69 l i).f0 (rd_T69 l i).f1 (rd_T69 l i).f2) (if b = true then 6 else if (rd_T69 l i).f1 ≤ (rd_T69 l i).f0 then 18 else vl a (l.drop (i + 1))) := by
      intro b
      cases b with
      | true => exact Ev.step (f := fun _ => some 6) (fun k => by rw [ancepsref09_Valid.j2, if_pos rfl]) (Ev.now _)
      | false =>
        by_cases h1 : (rd_T69 l i).f1 ≤ (rd_T69 l i).f0
        · rw [if_neg (by simp), if_pos h1]
          exact Ev.step (f := fun _ => some 18) (fun k => by rw [ancepsref09_Valid.j2, if_neg (by simp), if_pos h1]) (Ev.now _)
        · rw [if_neg (by simp), if_neg h1]
          exact Ev.step (f := fun k => ancepsref09_Valid.l0 k ((i + 1 : Nat) : Int) a l) (fun k => by rw [ancepsref09_Valid.j2, if_neg (by simp), if_neg h1, hw]) ih
    have hb : (if (rd_T69 l i).f0 < 0 ∨ a ≤ (rd_T69 l i).f0 ∨ (rd_T69 l i).f1 < 0 ∨ a ≤ (rd_T69 l i).f1 ∨ (rd_T69 l i).f2 < 0 ∨ 1000000 < (rd_T69 l i).f2 then (6 : Int) else if (rd_T69 l i).f1 ≤ (rd_T69 l i).f0 then 18 else vl a (l.drop (i + 1))) =
        (if (decide ((rd_T69 l i).f0 < 0 ∨ a ≤ (rd_T69 l i).f0 ∨ (rd_T69 l i).f1 < 0 ∨ a ≤ (rd_T69 l i).f1 ∨ (rd_T69 l i).f2 < 0 ∨ 1000000 < (rd_T69 l i).f2)) = true then (6 : Int) else if (rd_T69 l i).f1 ≤ (rd_T69 l i).f0 then 18 else vl a (l.drop (i + 1))) := by
      simp only [decide_eq_true_eq]
    rw [vl, hb]
    refine Ev.step (fun k => ?_) (tail _)
    rw [ancepsref09_Valid.l0, if_pos (by omega), if_pos (by omega)]
    generalize rd_T69 l i = x
    by_cases h0 : x.f0 < 0
    · simp [h0]
    · by_cases h1 : a ≤ x.f0
      · simp [h0, h1]
      · by_cases h2 : x.f1 < 0
        · simp [h0, h1, h2]
        · by_cases h3 : a ≤ x.f1
          · simp [h0, h1, h2, h3]
          · by_cases h4 : x.f2 < 0
            · simp [h0, h1, h2, h3, h4]
            · simp [h0, h1, h2, h3, h4]
theorem rvalid_ev (a : Int) (l : List S69) : Ev (fun k => ancepsref09_Valid.f k a l) (valid a l) := by
  unfold ancepsref09_Valid.f valid
  by_cases h0 : a < 1
  · simp only [if_pos h0]; exact Ev.now _
  · simp only [if_neg h0]
    by_cases h1 : a > 2000
    · simp only [if_pos h1, if_pos (show 2000 < a from h1)]
      exact Ev.step (f := fun _ => some 3) (fun k => by rw [ancepsref09_Valid.j0, if_pos rfl]) (Ev.now _)
    · simp only [if_neg h1, if_neg (show ¬ 2000 < a from h1)]
      by_cases h2 : (l.length : Int) > 6000
      · simp only [if_pos (show 6000 < (l.length : Int) from h2)]
        exact Ev.step (f := fun _ => some 3) (fun k => by rw [ancepsref09_Valid.j0, if_pos (by simpa using h2)]) (Ev.now _)
      · simp only [if_neg (show ¬ 6000 < (l.length : Int) from h2)]
        have := rvalid_loop a l (by omega) l.length 0 (by omega)
        exact Ev.step (f := fun k => ancepsref09_Valid.l0 k 0 a l) (fun k => by rw [ancepsref09_Valid.j0, if_neg (by simpa using h2)]) (by simpa using this)

theorem check_loop (a : Int) (l : List S69) (ps : List Int) (hl : (ps.length : Int) ≤ 9223372036854775807) : ∀ (n i : Nat) (at_ : Int), i + n = ps.length → Ev (fun k => dag_Check.l0 k at_ ps ps.length i a l) (ck a l at_ (ps.drop i))
  | 0, i, at_, h => by
    rw [List.drop_eq_nil_of_le (by omega)]
    refine Ev.step (f := fun _ => some (at_ == wrap64 (a - 1))) (fun k => ?_) (Ev.now _)
    rw [dag_Check.l0, if_neg (by omega)]
  | n + 1, i, at_, h => by
    have hi : i < ps.length := by omega
    rw [rd_at ps i hi]
    have hw := wrap_succ i ps.length hi hl
    have ih := check_loop a l ps hl n (i + 1) (rd_T69 l (rd ps i)).f1 (by omega)
    rw [ck]
    by_cases h0 : rd ps i < 0
    · rw [if_pos (.inl h0)]
      exact Ev.step (f := fun _ => some false) (fun k => by rw [dag_Check.l0, if_pos (by omega), if_pos (by omega), if_pos (by omega), if_pos h0]) (Ev.now _)
    · by_cases h1 : (l.length : Int) ≤ rd ps i
      · rw [if_pos (.inr h1)]
        exact Ev.step (f := fun _ => some false) (fun k => by rw [dag_Check.l0, if_pos (by omega), if_pos (by omega), if_pos (by omega), if_neg h0, if_pos (show rd ps i ≥ _ from h1)]) (Ev.now _)
      · rw [if_neg (by omega)]
        by_cases h2 : (rd_T69 l (rd ps i)).f0 = at_
        · rw [if_pos h2]
          exact Ev.step (f := fun k => dag_Check.l0 k (rd_T69 l (rd ps i)).f1 ps ps.length ((i + 1 : Nat) : Int) a l) (fun k => by rw [dag_Check.l0, if_pos (by omega), if_pos (by omega), if_pos (by omega), if_neg h0, if_neg (show ¬ rd ps i ≥ _ from h1), if_pos (by omega), if_pos (by omega), if_pos h2, hw]) ih
        · rw [if_neg h2]
          exact Ev.step (f := fun _ => some false) (fun k => by rw [dag_Check.l0, if_pos (by omega), if_pos (by omega), if_pos (by omega), if_neg h0, if_neg (show ¬ rd ps i ≥ _ from h1), if_pos (by omega), if_pos (by omega), if_neg h2]) (Ev.now _)
def check (a : Int) (l : List S69) (ps : List Int) : Bool := if valid a l = 0 then ck a l 0 ps else false
theorem check_ev (a : Int) (l : List S69) (ps : List Int) (hl : (ps.length : Int) ≤ 9223372036854775807) : Ev (fun k => dag_Check.f k a l ps) (check a l ps) := by
  refine Ev.bind (valid_ev a l) ?_
  unfold check
  by_cases h : valid a l = 0
  · simp only [if_pos h]
    have := check_loop a l ps hl ps.length 0 0 (by omega)
    simpa using this
  · simp only [if_neg h]; exact Ev.now _
theorem ck_in (a : Int) (l : List S69) : ∀ (ps : List Int) (at_ : Int), ck a l at_ ps = true → ∀ p, p ∈ ps → 0 ≤ p ∧ p < l.length
  | [], _, _, p, hp => by simp at hp
  | q :: ps, at_, h, p, hp => by
    rw [ck] at h
    by_cases h0 : q < 0 ∨ (l.length : Int) ≤ q
    · rw [if_pos h0] at h; exact absurd h (by simp)
    · rw [if_neg h0] at h
      by_cases h1 : (rd_T69 l q).f0 = at_
      · rw [if_pos h1] at h
        rcases List.mem_cons.1 hp with rfl | hp
        · omega
        · exact ck_in a l ps _ h p hp
      · rw [if_neg h1] at h; exact absurd h (by simp)
theorem rd_mem (ps : List Int) (i : Nat) (hi : i < ps.length) : rd ps i ∈ ps := by
  unfold rd
  simp only [Int.toNat_natCast, List.getD, List.getElem?_eq_getElem hi, Option.getD_some]
  exact List.getElem_mem hi

theorem awake_ev : Ev (fun k => ancepslaw09_awake.f k) true := Ev.of (fun k => ancepslaw09_awake.mono k) (k := 40) (by kernel_rfl)
theorem awake_bind : Ev (fun k => (ancepslaw09_awake.f k).bind fun t => some t) true := Ev.bind awake_ev (Ev.now _)

/-! ### Check and Cost of the reference, Cost -/
theorem cost_loop (a : Int) (l : List S69) (ps : List Int) (hl : (ps.length : Int) ≤ 9223372036854775807) (hp : ∀ p, p ∈ ps → 0 ≤ p ∧ p < (l.length : Int)) : ∀ (n i : Nat) (s : Int), i + n = ps.length → Ev (fun k => dag_Cost.l0 k s ps ps.length i a l) (sm l s (ps.drop i), 0)
  | 0, i, s, h => by
    rw [List.drop_eq_nil_of_le (by omega)]
    refine Ev.step (f := fun _ => some (s, 0)) (fun k => ?_) (Ev.now _)
    rw [dag_Cost.l0, if_neg (by omega)]
  | n + 1, i, s, h => by
    have hi : i < ps.length := by omega
    have hw := wrap_succ i ps.length hi hl
    have hr := hp _ (rd_mem ps i hi)
    rw [rd_at ps i hi, sm]
    have ih := cost_loop a l ps hl hp n (i + 1) (wrap64 (s + (rd_T69 l (rd ps i)).f2)) (by omega)
    exact Ev.step (f := fun k => dag_Cost.l0 k (wrap64 (s + (rd_T69 l (rd ps i)).f2)) ps ps.length ((i + 1 : Nat) : Int) a l) (fun k => by rw [dag_Cost.l0, if_pos (by omega), if_pos (by omega), if_pos (by omega), if_pos hr.1, if_pos hr.2, hw]) ih
theorem sum_loop (a : Int) (l : List S69) (ps : List Int) (hl : (ps.length : Int) ≤ 9223372036854775807) (hp : ∀ p, p ∈ ps → 0 ≤ p ∧ p < (l.length : Int)) : ∀ (n i : Nat) (s : Int), i + n = ps.length → Ev (fun k => ancepsref09_Sum.l0 k ps s i a l) (sm l s (ps.drop i))
  | 0, i, s, h => by
    rw [List.drop_eq_nil_of_le (by omega)]
    refine Ev.step (f := fun _ => some s) (fun k => ?_) (Ev.now _)
    rw [ancepsref09_Sum.l0, if_neg (by omega)]
  | n + 1, i, s, h => by
    have hi : i < ps.length := by omega
    have hw := wrap_succ i ps.length hi hl
    have hr := hp _ (rd_mem ps i hi)
    rw [rd_at ps i hi, sm]
    have ih := sum_loop a l ps hl hp n (i + 1) (wrap64 (s + (rd_T69 l (rd ps i)).f2)) (by omega)
    exact Ev.step (f := fun k => ancepsref09_Sum.l0 k ps (wrap64 (s + (rd_T69 l (rd ps i)).f2)) ((i + 1 : Nat) : Int) a l) (fun k => by rw [ancepsref09_Sum.l0, if_pos (by omega), if_pos (by omega), if_pos hr.1, if_pos hr.2, hw]) ih
def cost (a : Int) (l : List S69) (ps : List Int) : Int × Int := if valid a l = 0 then if check a l ps = true then (sm l 0 ps, 0) else (0, 1) else (0, valid a l)
theorem check_in {a : Int} {l : List S69} {ps : List Int} (h : check a l ps = true) : ∀ p, p ∈ ps → 0 ≤ p ∧ p < (l.length : Int) := by
  unfold check at h
  by_cases hv : valid a l = 0
  · rw [if_pos hv] at h; exact ck_in a l ps 0 h
  · rw [if_neg hv] at h; exact absurd h (by simp)
theorem cost_ev (a : Int) (l : List S69) (ps : List Int) (hl : (ps.length : Int) ≤ 9223372036854775807) : Ev (fun k => dag_Cost.f k a l ps) (cost a l ps) := by
  refine Ev.bind (valid_ev a l) ?_
  unfold cost
  by_cases h : valid a l = 0
  · simp only [if_pos h]
    refine Ev.bind (check_ev a l ps hl) ?_
    by_cases hc : check a l ps = true
    · simp only [if_pos hc]
      have := cost_loop a l ps hl (check_in hc) ps.length 0 0 (by omega)
      simpa using this
    · simp only [if_neg hc]; exact Ev.now _
  · simp only [if_neg h]; exact Ev.now _
/-! ### Graphs without errors; the arcs of a node; ways -/
structure VG (a : Int) (l : List S69) : Prop where
  lo : 1 ≤ a
  hi : a ≤ 2000
  len : (l.length : Int) ≤ 6000
  arc : ∀ x, x ∈ l → 0 ≤ x.f0 ∧ x.f0 < x.f1 ∧ x.f1 < a ∧ 0 ≤ x.f2 ∧ x.f2 ≤ 1000000
theorem vl_zero (a : Int) : ∀ l : List S69, vl a l = 0 ↔ ∀ x, x ∈ l → 0 ≤ x.f0 ∧ x.f0 < x.f1 ∧ x.f1 < a ∧ 0 ≤ x.f2 ∧ x.f2 ≤ 1000000
  | [] => by simp [vl]
  | x :: xs => by
    rw [vl]
    by_cases h0 : x.f0 < 0 ∨ a ≤ x.f0 ∨ x.f1 < 0 ∨ a ≤ x.f1 ∨ x.f2 < 0 ∨ 1000000 < x.f2
    · rw [if_pos h0]
      refine ⟨fun h => by omega, fun h => ?_⟩
      have := h x List.mem_cons_self
      omega
    · rw [if_neg h0]
      by_cases h1 : x.f1 ≤ x.f0
      · rw [if_pos h1]
        refine ⟨fun h => by omega, fun h => ?_⟩
        have := h x List.mem_cons_self
        omega
      · rw [if_neg h1, vl_zero a xs]
        refine ⟨fun h y hy => ?_, fun h y hy => h y (List.mem_cons_of_mem _ hy)⟩
        rcases List.mem_cons.1 hy with rfl | hy
        · omega
        · exact h y hy
theorem valid_VG (a : Int) (l : List S69) : valid a l = 0 ↔ VG a l := by
  unfold valid
  by_cases h0 : a < 1
  · rw [if_pos h0]; exact ⟨fun h => by omega, fun h => by have := h.lo; omega⟩
  · rw [if_neg h0]
    by_cases h1 : 2000 < a
    · rw [if_pos h1]; exact ⟨fun h => by omega, fun h => by have := h.hi; omega⟩
    · rw [if_neg h1]
      by_cases h2 : 6000 < (l.length : Int)
      · rw [if_pos h2]; exact ⟨fun h => by omega, fun h => by have := h.len; omega⟩
      · rw [if_neg h2, vl_zero]; exact ⟨fun h => ⟨by omega, by omega, by omega, h⟩, fun h => h.arc⟩
/-- The places, from i on, of the arcs that begin at a node. -/
def ix (n : Int) : List S69 → Int → List Int
  | [], _ => []
  | x :: xs, i => if x.f0 = n then i :: ix n xs (i + 1) else ix n xs (i + 1)
theorem ix_length (n : Int) : ∀ (l : List S69) (i : Int), (ix n l i).length ≤ l.length
  | [], _ => by simp [ix]
  | x :: xs, i => by
    have := ix_length n xs (i + 1)
    rw [ix]; split <;> simp <;> omega
theorem ix_mem (n : Int) : ∀ (l : List S69) (i j : Int), j ∈ ix n l i → i ≤ j ∧ j < i + l.length ∧ (rd_T69 l (j - i)).f0 = n ∧ rd_T69 l (j - i) ∈ l
  | [], _, _, h => by simp [ix] at h
  | x :: xs, i, j, h => by
    rw [ix] at h
    have tl : j ∈ ix n xs (i + 1) → i ≤ j ∧ j < i + (x :: xs).length ∧ (rd_T69 (x :: xs) (j - i)).f0 = n ∧ rd_T69 (x :: xs) (j - i) ∈ x :: xs := by
      intro h1
      obtain ⟨h2, h3, h4, h5⟩ := ix_mem n xs (i + 1) j h1
      have e : (j - i).toNat = (j - (i + 1)).toNat + 1 := by omega
      have e2 : rd_T69 (x :: xs) (j - i) = rd_T69 xs (j - (i + 1)) := by unfold rd_T69; rw [e]; simp
      rw [e2]
      exact ⟨by omega, by simp; omega, h4, List.mem_cons_of_mem _ h5⟩
    by_cases hx : x.f0 = n
    · rw [if_pos hx] at h
      rcases List.mem_cons.1 h with rfl | h
      · refine ⟨by omega, by simp; omega, ?_, ?_⟩ <;> simp [rd_T69, hx]
      · exact tl h
    · rw [if_neg hx] at h; exact tl h
theorem ix_snoc (n : Int) (x : S69) : ∀ (l : List S69) (i : Int), ix n (l ++ [x]) i = ix n l i ++ (if x.f0 = n then [i + l.length] else [])
  | [], i => by simp [ix]
  | y :: ys, i => by
    have := ix_snoc n x ys (i + 1)
    simp only [List.cons_append, ix, this]
    split <;> simp <;> split <;> simp <;> omega
theorem rd_set_L2 (B : List (List Int)) (m n : Int) (v : List Int) (hm : 0 ≤ m) (hn : 0 ≤ n) (hl : m < (B.length : Int)) : rd_L2 (B.set m.toNat v) n = if m = n then v else rd_L2 B n := by
  unfold rd_L2
  by_cases h : m = n
  · subst h; rw [if_pos rfl]; rw [List.getD, List.getElem?_set_self (by omega)]; rfl
  · rw [if_neg h]; simp [List.getD, List.getElem?_set_ne (show m.toNat ≠ n.toNat by omega)]
theorem byFrom_loop {a : Int} {l : List S69} (hv : VG a l) : ∀ (d i : Nat) (B : List (List Int)), i + d = l.length → (B.length : Int) = a → (∀ n, 0 ≤ n → n < a → rd_L2 B n = ix n (l.take i) 0) →
    ∃ B', Ev (fun k => dag_byFrom.l0 k B l l.length i) B' ∧ (B'.length : Int) = a ∧ ∀ n, 0 ≤ n → n < a → rd_L2 B' n = ix n l 0
  | 0, i, B, h, hB, hi => by
    refine ⟨B, Ev.step (f := fun _ => some B) (fun k => ?_) (Ev.now _), hB, fun n h0 h1 => ?_⟩
    · rw [dag_byFrom.l0, if_neg (by omega)]
    · rw [hi n h0 h1, List.take_of_length_le (by omega)]
  | d + 1, i, B, h, hB, hi => by
    have hlt : i < l.length := by omega
    have hlen := hv.len
    have hw := wrap_succ i l.length hlt (by omega)
    have hx : rd_T69 l i ∈ l := by
      have := rdT_at l i hlt
      have h2 : rd_T69 l i ∈ l.drop i := by rw [this]; exact List.mem_cons_self
      exact List.mem_of_mem_drop h2
    have hr := hv.arc _ hx
    have hBi := hi (rd_T69 l i).f0 (by omega) (by omega)
    have hbl : (rd_L2 B (rd_T69 l i).f0).length < 17592186044416 := by
      rw [hBi]
      have := ix_length (rd_T69 l i).f0 (l.take i) 0
      simp at this
      omega
    have htk : l.take (i + 1) = l.take i ++ [rd_T69 l i] := by
      rw [List.take_succ_eq_append_getElem hlt]; simp [rd_T69, List.getD, List.getElem?_eq_getElem hlt]
    obtain ⟨B', h1, h2, h3⟩ := byFrom_loop hv d (i + 1) (B.set ((rd_T69 l i).f0).toNat ((rd_L2 B (rd_T69 l i).f0) ++ [(i : Int)])) (by omega) (by simpa using hB) (fun n hn hn2 => by
      rw [rd_set_L2 B _ n _ (by omega) hn (by omega), htk, ix_snoc]
      by_cases e : (rd_T69 l i).f0 = n
      · rw [if_pos e, if_pos e, ← e, hBi]; simp; omega
      · rw [if_neg e, if_neg e, hi n hn hn2]; simp)
    refine ⟨B', Ev.step (fun k => ?_) h1, h2, h3⟩
    rw [dag_byFrom.l0, if_pos (by omega), if_pos (by omega), if_pos (by omega), if_pos (by omega), if_pos (by omega), if_pos hbl, hw]
theorem rd_replicate (n : Nat) (i : Int) : rd_L2 (List.replicate n []) i = [] := by
  unfold rd_L2
  simp only [List.getD, List.getElem?_replicate]
  split <;> rfl
theorem byFrom_ev {a : Int} {l : List S69} (hv : VG a l) : ∃ B, Ev (fun k => dag_byFrom.f k a l) B ∧ (B.length : Int) = a ∧ ∀ n, 0 ≤ n → n < a → rd_L2 B n = ix n l 0 := by
  have h1 := hv.lo
  have h2 := hv.hi
  obtain ⟨B, hB, hl, hn⟩ := byFrom_loop hv l.length 0 (List.replicate a.toNat []) (by omega) (by simp; omega) (fun n _ _ => by simp [rd_replicate, ix])
  refine ⟨B, ?_, hl, hn⟩
  unfold dag_byFrom.f
  exact ev_pos (by omega) (ev_pos (by omega) (by simpa using hB))

/-! Ways: nodes n - 1, .., 0, each with its arcs. -/
def wst (n : Int) (l : List S69) (o : List Int) : List Int := l.foldl (fun o x => if x.f0 = n then o.set n.toNat (capV (rd o n) (rd o x.f1)) else o) o
def wys (l : List S69) : Nat → List Int → List Int
  | 0, o => o
  | n + 1, o => wys l n (wst n l o)
theorem wst_cons (n : Int) (x : S69) (l : List S69) (o : List Int) : wst n (x :: l) o = wst n l (if x.f0 = n then o.set n.toNat (capV (rd o n) (rd o x.f1)) else o) := rfl
def cap : Int := 4611686018427387905
def Bd (o : List Int) : Prop := ∀ i, 0 ≤ rd o i ∧ rd o i ≤ cap
theorem capV_min (s t : Int) (h0 : 0 ≤ s) (h1 : s ≤ cap) (h2 : 0 ≤ t) (h3 : t ≤ cap) : capV s t = if s + t ≤ cap then s + t else cap := by
  unfold capV cap at *
  rw [w64_in _ (by omega)]
  by_cases h : s > 4611686018427387904 - t
  · rw [if_pos h]; split <;> omega
  · rw [if_neg h, if_pos (by omega), w64_in _ (by omega)]
theorem capV_bd (s t : Int) (h0 : 0 ≤ s) (h1 : s ≤ cap) (h2 : 0 ≤ t) (h3 : t ≤ cap) : 0 ≤ capV s t ∧ capV s t ≤ cap := by
  rw [capV_min s t h0 h1 h2 h3]; unfold cap at *; split <;> omega
theorem capR_eq (s t : Int) (h0 : 0 ≤ s) (h1 : s ≤ cap) (h2 : 0 ≤ t) (h3 : t ≤ cap) : ancepsref09_capped.f s t = some (capV s t) := by
  rw [capV_min s t h0 h1 h2 h3]; unfold ancepsref09_capped.f cap at *
  rw [w64_in (4611686018427387905 - t) (by omega)]
  by_cases h : s > 4611686018427387905 - t
  · rw [if_pos h]; split <;> first | omega | rfl
  · rw [if_neg h, w64_in _ (by omega), if_pos (by omega)]
theorem rd_set (o : List Int) (m n v : Int) (hm : 0 ≤ m) (hl : m < (o.length : Int)) (hn : 0 ≤ n) : rd (o.set m.toNat v) n = if m = n then v else rd o n := by
  unfold rd
  by_cases h : m = n
  · subst h; rw [if_pos rfl]; rw [List.getD, List.getElem?_set_self (by omega)]; rfl
  · rw [if_neg h]; simp [List.getD, List.getElem?_set_ne (show m.toNat ≠ n.toNat by omega)]
theorem rd_neg (o : List Int) (n : Int) (h : n < 0) : rd o n = rd o 0 := by
  unfold rd; rw [show n.toNat = (0 : Int).toNat by omega]
theorem Bd.set {o : List Int} (h : Bd o) (n v : Int) (hv : 0 ≤ v ∧ v ≤ cap) : Bd (o.set n.toNat v) := by
  intro i
  unfold rd
  by_cases e : n.toNat = i.toNat
  · by_cases hl : i.toNat < o.length
    · simp [List.getD, e, List.getElem?_set_self hl, hv]
    · rw [List.set_eq_of_length_le (by omega)]; exact h i
  · simp only [List.getD, List.getElem?_set_ne e]; exact h i
theorem Bd.arc {o : List Int} (h : Bd o) (n m : Int) : Bd (o.set n.toNat (capV (rd o n) (rd o m))) :=
  h.set n _ (capV_bd _ _ (h n).1 (h n).2 (h m).1 (h m).2)
theorem wst_length (n : Int) : ∀ (l : List S69) (o : List Int), (wst n l o).length = o.length
  | [], _ => rfl
  | x :: l, o => by rw [wst_cons, wst_length n l]; split <;> simp
theorem wst_bd (n : Int) : ∀ (l : List S69) (o : List Int), Bd o → Bd (wst n l o)
  | [], _, h => h
  | x :: l, o, h => by
    rw [wst_cons]; refine wst_bd n l _ ?_
    split
    · exact h.arc n x.f1
    · exact h
theorem wys_length (l : List S69) : ∀ (n : Nat) (o : List Int), (wys l n o).length = o.length
  | 0, _ => rfl
  | n + 1, o => by rw [wys, wys_length l n, wst_length]
theorem wys_bd (l : List S69) : ∀ (n : Nat) (o : List Int), Bd o → Bd (wys l n o)
  | 0, _, h => h
  | n + 1, o, h => wys_bd l n _ (wst_bd _ _ _ h)
theorem ix_fold (l : List S69) (n : Int) : ∀ (s : List S69) (i : Nat) (o : List Int), l.drop i = s → (ix n s i).foldl (waysArc l n) o = wst n s o
  | [], _, _, _ => rfl
  | x :: s, i, o, h => by
    have hi : i < l.length := by
      rcases Nat.lt_or_ge i l.length with h1 | h1
      · exact h1
      · rw [List.drop_eq_nil_of_le h1] at h; cases h
    have h2 := rdT_at l i hi
    rw [h] at h2
    injection h2 with h3 h4
    have ih := fun o => ix_fold l n s (i + 1) o h4.symm
    rw [wst_cons, ix]
    by_cases hx : x.f0 = n
    · rw [if_pos hx, if_pos hx, List.foldl_cons]
      have := ih (waysArc l n o i)
      rw [show ((i + 1 : Nat) : Int) = (i : Int) + 1 by omega] at this
      rw [this, h3]; rfl
    · rw [if_neg hx, if_neg hx]
      have := ih o
      rw [show ((i + 1 : Nat) : Int) = (i : Int) + 1 by omega] at this
      exact this
theorem range_fold {l : List S69} {B : List (List Int)} (g : ∀ n : Nat, n < B.length → rd_L2 B n = ix n l 0) : ∀ (m : Nat) (o : List Int), m ≤ B.length → (List.range m).reverse.foldl (fun o n => waysNode l B o n) o = wys l m o
  | 0, _, _ => rfl
  | m + 1, o, h => by
    rw [List.range_succ, List.reverse_append, List.reverse_singleton, List.singleton_append, List.foldl_cons, range_fold g m _ (by omega), wys]
    congr 1
    unfold waysNode
    rw [g m (by omega)]
    exact ix_fold l m l 0 o rfl
theorem waysFrom_wys {l : List S69} {B : List (List Int)} (g : ∀ n : Nat, n < B.length → rd_L2 B n = ix n l 0) (o : List Int) : waysFrom l B o (List.finRange B.length).reverse = wys l B.length o := by
  rw [← range_fold g B.length o (Nat.le_refl _)]
  unfold waysFrom
  have e : (List.range B.length).reverse = ((List.finRange B.length).reverse).map (fun x => x.val) := by
    rw [List.map_reverse]
    congr 1
    apply List.ext_getElem (by simp)
    intro i h1 h2
    simp
  rw [e, List.foldl_map]
theorem wst_none (n : Int) : ∀ (l : List S69) (o : List Int), (∀ x, x ∈ l → x.f0 ≠ n) → wst n l o = o
  | [], _, _ => rfl
  | x :: l, o, h => by rw [wst_cons, if_neg (h x List.mem_cons_self)]; exact wst_none n l o (fun y hy => h y (List.mem_cons_of_mem _ hy))
/-- The ways of all nodes to the end. -/
def ways0 (a : Int) : List Int := (List.replicate a.toNat (0 : Int)).set (a - 1).toNat 1
def ways (a : Int) (l : List S69) : List Int := wys l (a - 1).toNat (ways0 a)
theorem ways0_length (a : Int) : (ways0 a).length = a.toNat := by simp [ways0]
theorem ways0_bd (a : Int) : Bd (ways0 a) := by
  refine Bd.set (fun i => ?_) _ _ (by unfold cap; omega)
  unfold rd cap
  simp only [List.getD, List.getElem?_replicate]
  split <;> simp
theorem ways_length (a : Int) (l : List S69) : (ways a l).length = a.toNat := by unfold ways; rw [wys_length, ways0_length]
theorem ways_bd (a : Int) (l : List S69) : Bd (ways a l) := wys_bd _ _ _ (ways0_bd a)
theorem ways_all {a : Int} {l : List S69} (hv : VG a l) : wys l a.toNat (ways0 a) = ways a l := by
  have := hv.lo
  unfold ways
  rw [show a.toNat = (a - 1).toNat + 1 by omega, wys, wst_none]
  intro x hx
  have := hv.arc x hx
  omega
theorem rd_nat_mem (ps : List Int) (P : Int → Prop) (h : ∀ p, p ∈ ps → P p) (i : Nat) (hi : i < ps.length) : P (rd ps i) := h _ (rd_mem ps i hi)
theorem dways_ev {a : Int} {l : List S69} (hv : VG a l) : Ev (fun k => dag_ways.f k a l) (ways a l) := by
  have h1 := hv.lo
  have h2 := hv.hi
  have h3 := hv.len
  obtain ⟨B, hB, hl, hn⟩ := byFrom_ev hv
  unfold dag_ways.f
  rw [w64_in (a - 1) (by omega)]
  refine ev_pos (by omega) (ev_pos (by omega) (ev_some (ev_pos (by omega) (ev_pos (by simp; omega) ?_))))
  refine Ev.bind hB ?_
  have hs : waysSafe l (List.replicate a.toNat (0 : Int)).length B = true := by
    simp only [waysSafe, Bool.and_eq_true, List.all_eq_true, decide_eq_true_eq, beq_iff_eq, List.length_replicate]
    refine ⟨by omega, fun q hq => ?_⟩
    obtain ⟨n, hn2, rfl⟩ := List.getElem_of_mem hq
    have e1 : B[n] = rd_L2 B n := by simp [rd_L2, hn2]
    rw [e1, hn n (by omega) (by omega)]
    have := ix_length n l 0
    refine ⟨by omega, fun j hj => ?_⟩
    obtain ⟨h4, h5, _, h6⟩ := ix_mem n l 0 j hj
    rw [show j - 0 = j by omega] at h6
    have := hv.arc _ h6
    omega
  rw [if_pos hs, waysFrom_wys (fun n h => hn n (by omega) (by omega))]
  have : B.length = a.toNat := by omega
  rw [this, show (List.replicate a.toNat (0 : Int)).set (a - 1).toNat 1 = ways0 a from rfl, ways_all hv]
  exact Ev.now _
theorem rways_in {a : Int} {l : List S69} (hv : VG a l) (n : Int) (hn : 0 ≤ n) (hn2 : n < a) {r : List Int} : ∀ (d i : Nat) (o : List Int), i + d = l.length → (o.length : Int) = a → Bd o →
    Ev (fun k => ancepsref09_ways.l0 k (wst n (l.drop i) o) (n - 1) a l) r → Ev (fun k => ancepsref09_ways.l1 k o n i a l) r
  | 0, i, o, h, ho, hb, hr => by
    rw [List.drop_eq_nil_of_le (by omega)] at hr
    have := hv.hi
    refine Ev.step (fun k => ?_) hr
    rw [ancepsref09_ways.l1, if_neg (by omega), w64_in (n - 1) (by omega)]; rfl
  | d + 1, i, o, h, ho, hb, hr => by
    have hi : i < l.length := by omega
    have hlen := hv.len
    have hw := wrap_succ i l.length hi (by omega)
    have hdr := rdT_at l i hi
    have hx : rd_T69 l i ∈ l := by
      have h2 : rd_T69 l i ∈ l.drop i := by rw [hdr]; exact List.mem_cons_self
      exact List.mem_of_mem_drop h2
    have ha := hv.arc _ hx
    rw [hdr, wst_cons] at hr
    by_cases e : (rd_T69 l i).f0 = n
    · rw [if_pos e] at hr
      have ih := rways_in hv n hn hn2 d (i + 1) _ (by omega) (by simpa using ho) (hb.arc n (rd_T69 l i).f1) hr
      refine Ev.step (fun k => ?_) ih
      rw [ancepsref09_ways.l1, if_pos (by omega), if_pos (by omega), if_pos e, if_pos (by omega), if_pos (by omega), if_pos (by omega), if_pos (by omega), capR_eq _ _ (hb n).1 (hb n).2 (hb _).1 (hb _).2, hw]
      rfl
    · rw [if_neg e] at hr
      have ih := rways_in hv n hn hn2 d (i + 1) _ (by omega) ho hb hr
      refine Ev.step (fun k => ?_) ih
      rw [ancepsref09_ways.l1, if_pos (by omega), if_pos (by omega), if_neg e, hw]
theorem rways_out {a : Int} {l : List S69} (hv : VG a l) : ∀ (n : Nat) (o : List Int), (n : Int) < a → (o.length : Int) = a → Bd o → Ev (fun k => ancepsref09_ways.l0 k o ((n : Int) - 1) a l) (wys l n o)
  | 0, o, _, _, _ => by
    refine Ev.step (f := fun _ => some o) (fun k => ?_) (Ev.now _)
    rw [ancepsref09_ways.l0, if_neg (by omega)]
  | n + 1, o, hn, ho, hb => by
    have ih := rways_out hv n (wst n l o) (by omega) (by rw [wst_length]; exact ho) (wst_bd _ _ _ hb)
    have := rways_in hv n (by omega) (by omega) l.length 0 o (by omega) ho hb (r := wys l (n + 1) o) (by rw [wys]; simpa using ih)
    refine Ev.step (fun k => ?_) this
    rw [ancepsref09_ways.l0, if_pos (by omega)]
    rw [show ((n + 1 : Nat) : Int) - 1 = n by omega]; rfl
theorem rways_ev {a : Int} {l : List S69} (hv : VG a l) : Ev (fun k => ancepsref09_ways.f k a l) (ways a l) := by
  have h1 := hv.lo
  have h2 := hv.hi
  unfold ancepsref09_ways.f
  rw [w64_in (a - 1) (by omega), w64_in (a - 2) (by omega)]
  refine ev_pos (by omega) (ev_pos (by omega) (ev_some (ev_pos (by omega) (ev_pos (by simp; omega) ?_))))
  have := rways_out hv (a - 1).toNat (ways0 a) (by omega) (by rw [ways0_length]; omega) (ways0_bd a)
  rw [show (((a - 1).toNat : Nat) : Int) - 1 = a - 2 by omega] at this
  exact this
def count (a : Int) (l : List S69) : Int × Int := if valid a l = 0 then if rd (ways a l) 0 > 4611686018427387904 then (0, 3) else (rd (ways a l) 0, 0) else (0, valid a l)
/-! ### Reverse, Same -/
def rvx (a : Int) (x : S69) : S69 := ⟨a - 1 - x.f1, a - 1 - x.f0, x.f2⟩
def rev (a : Int) (l : List S69) : Int × List S69 × Int := if valid a l = 0 then (a, l.map (rvx a), 0) else (0, [], valid a l)
theorem rvx_two (a : Int) (x : S69) : rvx a (rvx a x) = x := by
  cases x; simp only [rvx]; congr 1 <;> omega
theorem map_rvx_two (a : Int) (l : List S69) : (l.map (rvx a)).map (rvx a) = l := by
  rw [List.map_map]; simp [Function.comp_def, rvx_two]
theorem VG.rev {a : Int} {l : List S69} (h : VG a l) : VG a (l.map (rvx a)) :=
  ⟨h.lo, h.hi, by simpa using h.len, fun x hx => by
    obtain ⟨y, hy, rfl⟩ := List.mem_map.1 hx
    have := h.arc y hy
    simp only [rvx]; omega⟩
theorem rdT_mem (l : List S69) (i : Nat) (hi : i < l.length) : rd_T69 l i ∈ l := by
  have h2 : rd_T69 l i ∈ l.drop i := by rw [rdT_at l i hi]; exact List.mem_cons_self
  exact List.mem_of_mem_drop h2
theorem drev_loop {a : Int} {l : List S69} (hv : VG a l) : ∀ (d i : Nat) (acc : List S69), i + d = l.length → acc.length = i → Ev (fun k => dag_Reverse.l0 k (a - 1) l l.length i a acc) (a, acc ++ (l.drop i).map (rvx a), 0)
  | 0, i, acc, h, ha => by
    rw [List.drop_eq_nil_of_le (by omega), List.map_nil, List.append_nil]
    refine Ev.step (f := fun _ => some (a, acc, 0)) (fun k => ?_) (Ev.now _)
    rw [dag_Reverse.l0, if_neg (by omega)]
  | d + 1, i, acc, h, ha => by
    have hi : i < l.length := by omega
    have hlen := hv.len
    have hal := hv.lo
    have hah := hv.hi
    have hw := wrap_succ i l.length hi (by omega)
    have hx := hv.arc _ (rdT_mem l i hi)
    have ih := drev_loop hv d (i + 1) (acc ++ [rvx a (rd_T69 l i)]) (by omega) (by simp [ha])
    rw [rdT_at l i hi, List.map_cons]
    rw [List.append_assoc, List.singleton_append] at ih
    refine Ev.step (fun k => ?_) ih
    rw [dag_Reverse.l0, if_pos (by omega), if_pos (by omega), if_pos (by omega), if_pos (by omega), hw, w64_in _ (by omega), w64_in _ (by omega)]; rfl
theorem drev_ev (a : Int) (l : List S69) : Ev (fun k => dag_Reverse.f k a l) (rev a l) := by
  refine Ev.bind (valid_ev a l) ?_
  unfold rev
  by_cases h : valid a l = 0
  · have hv := (valid_VG a l).1 h
    have hal := hv.lo
    have hah := hv.hi
    rw [if_pos h, w64_in _ (by omega)]
    exact ev_pos h (by simpa using drev_loop hv l.length 0 [] (by omega) rfl)
  · rw [if_neg h]; exact ev_neg h (Ev.now _)
theorem rev_le (a : Int) (l : List S69) : ((rev a l).2.1.length : Int) ≤ 6000 := by
  unfold rev
  split
  · rename_i h; simpa using ((valid_VG a l).1 h).len
  · simp
theorem rev_two {a : Int} {l : List S69} (h : (rev a l).2.2 = 0) : rev (rev a l).1 (rev a l).2.1 = (a, l, 0) := by
  unfold rev at h
  by_cases hv : valid a l = 0
  · have h2 : valid a (l.map (rvx a)) = 0 := (valid_VG _ _).2 ((valid_VG _ _).1 hv).rev
    rw [show rev a l = (a, l.map (rvx a), 0) by unfold rev; rw [if_pos hv]]
    unfold rev
    simp only [if_pos h2, map_rvx_two]
  · rw [if_neg hv] at h; exact absurd h hv

end Go.Proofs.Ytanbffoilianhaa.Pure
