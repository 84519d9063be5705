/- The plain law behind T: about the printed functions alone, no memory and no Go in it. -/
import Derived.Test.YtanbffoilianhaaPureC
import Derived.Test.YtanbffoilianhaaPureR
import Derived.Test.YtanbffoilianhaaE23
import Derived.Test.YtanbffoilianhaaE24
namespace Go.Proofs.Ytanbffoilianhaa.Pure
open Go.RowKit Go.Proofs.YtanbffoilianhaaW.PrintWords Go.Proofs.Ytanbffoilianhaa.E
set_option linter.unusedVariables false
set_option linter.unusedSimpArgs false
/-! ### Trim -/
def us (is : List Bool) (left : List Int) (n : Int) : Bool := rdOf false is n && decide (rd left n > 0)
def tl (is : List Bool) (left : List Int) : Nat → Int → List Int → List Int → List Int × List Int
  | 0, _, F, N => (F, N)
  | d + 1, n, F, N => if us is left n = true then tl is left d (n + 1) (F ++ [n]) ((N.set n.toNat (-1)).set n.toNat F.length) else tl is left d (n + 1) F (N.set n.toNat (-1))
def tarc (N : List Int) (x : S69) : S69 := ⟨rd N x.f0, rd N x.f1, x.f2⟩
def ta (N : List Int) : List S69 → List S69
  | [] => []
  | x :: l => if rd N x.f0 ≥ 0 ∧ rd N x.f1 ≥ 0 then tarc N x :: ta N l else ta N l
def tr (a : Int) (l : List S69) : List Int × List Int := tl (reach a l) (ways a l) a.toNat 0 [] (List.replicate a.toNat 0)
def trim (a : Int) (l : List S69) : Int × List S69 × List Int × Int :=
  if valid a l = 0 then (if rd (ways a l) 0 = 0 then (0, [], [], 10) else (((tr a l).1.length : Int), ta (tr a l).2 l, (tr a l).1, 0)) else (0, [], [], valid a l)
theorem ta_length (N : List Int) : ∀ l : List S69, (ta N l).length ≤ l.length
  | [] => by simp [ta]
  | x :: l => by have := ta_length N l; rw [ta]; split <;> simp <;> omega
theorem ta_mem (N : List Int) : ∀ (l : List S69) (y : S69), y ∈ ta N l ↔ ∃ x, x ∈ l ∧ rd N x.f0 ≥ 0 ∧ rd N x.f1 ≥ 0 ∧ y = tarc N x
  | [], y => by simp [ta]
  | x :: l, y => by
    have ih := ta_mem N l y
    rw [ta]
    by_cases h : rd N x.f0 ≥ 0 ∧ rd N x.f1 ≥ 0
    · rw [if_pos h, List.mem_cons, ih]
      constructor
      · rintro (rfl | ⟨z, hz, hz2⟩)
        · exact ⟨x, List.mem_cons_self, h.1, h.2, rfl⟩
        · exact ⟨z, List.mem_cons_of_mem _ hz, hz2⟩
      · rintro ⟨z, hz, h1, h2, e⟩
        rcases List.mem_cons.1 hz with rfl | hz
        · exact .inl e
        · exact .inr ⟨z, hz, h1, h2, e⟩
    · rw [if_neg h, ih]
      constructor
      · rintro ⟨z, hz, hz2⟩; exact ⟨z, List.mem_cons_of_mem _ hz, hz2⟩
      · rintro ⟨z, hz, h1, h2, e⟩
        rcases List.mem_cons.1 hz with rfl | hz
        · exact absurd ⟨h1, h2⟩ h
        · exact ⟨z, hz, h1, h2, e⟩
theorem tl_length (is : List Bool) (left : List Int) : ∀ (d : Nat) (n : Int) (F N : List Int), (tl is left d n F N).1.length ≤ F.length + d ∧ (tl is left d n F N).2.length = N.length
  | 0, _, _, _ => by simp [tl]
  | d + 1, n, F, N => by
    rw [tl]
    split
    · have := tl_length is left d (n + 1) (F ++ [n]) ((N.set n.toNat (-1)).set n.toNat F.length)
      simp only [List.length_append, List.length_cons, List.length_nil, List.length_set] at this; omega
    · have := tl_length is left d (n + 1) F (N.set n.toNat (-1))
      simp only [List.length_set] at this; omega
/-! What both programs compute. -/
theorem dtrim_arcs {a : Int} {l : List S69} (hv : VG a l) (F N : List Int) (hN : (N.length : Int) = a) (m : Int) : ∀ (d i : Nat) (acc : List S69), i + d = l.length → acc.length ≤ i → Ev (fun k => dag_Trim.l1 k F N l l.length i m acc) (m, acc ++ ta N (l.drop i), F, 0)
  | 0, i, acc, h, ha => by
    rw [List.drop_eq_nil_of_le (by omega)]
    refine Ev.step (f := fun _ => some (m, acc, F, 0)) (fun k => ?_) (by simpa [ta] using Ev.now _)
    rw [dag_Trim.l1, if_neg (by omega)]
  | d + 1, i, acc, h, ha => by
    have hi : i < l.length := by omega
    have hlen := hv.len
    have hw := wrap_succ i l.length hi (by omega)
    have hx := hv.arc _ (rdT_mem l i hi)
    rw [rdT_at l i hi, ta]
    by_cases e0 : rd N (rd_T69 l i).f0 ≥ 0
    · by_cases e1 : rd N (rd_T69 l i).f1 ≥ 0
      · have ih := dtrim_arcs hv F N hN m d (i + 1) (acc ++ [tarc N (rd_T69 l i)]) (by omega) (by simp; omega)
        rw [if_pos ⟨e0, e1⟩]
        rw [List.append_assoc, List.singleton_append] at ih
        refine Ev.step (fun k => ?_) ih
        rw [dag_Trim.l1, if_pos (by omega), if_pos (by omega), if_pos (by omega), if_pos (by omega), if_pos (by omega), if_pos (by omega), if_pos (by omega), if_pos e0, if_pos e1, if_pos (by omega), hw]; rfl
      · have ih := dtrim_arcs hv F N hN m d (i + 1) acc (by omega) (by omega)
        rw [if_neg (by omega)]
        refine Ev.step (fun k => ?_) ih
        rw [dag_Trim.l1, if_pos (by omega), if_pos (by omega), if_pos (by omega), if_pos (by omega), if_pos (by omega), if_pos (by omega), if_pos (by omega), if_pos e0, if_neg e1, hw]
    · have ih := dtrim_arcs hv F N hN m d (i + 1) acc (by omega) (by omega)
      rw [if_neg (by omega)]
      refine Ev.step (fun k => ?_) ih
      rw [dag_Trim.l1, if_pos (by omega), if_pos (by omega), if_pos (by omega), if_pos (by omega), if_pos (by omega), if_pos (by omega), if_pos (by omega), if_neg e0, hw]
theorem dtrim_loop {a : Int} {l : List S69} (hv : VG a l) (is : List Bool) (left : List Int) (his : (is.length : Int) = a) (hle : (left.length : Int) = a) : ∀ (d n : Nat) (F N : List Int), (n : Int) + d = a → F.length ≤ n → (N.length : Int) = a →
    Ev (fun k => dag_Trim.l0 k is left F N a n a l) (((tl is left d n F N).1.length : Int), ta (tl is left d n F N).2 l, (tl is left d n F N).1, 0)
  | 0, n, F, N, h, hF, hN => by
    have := dtrim_arcs hv F N hN F.length l.length 0 [] (by omega) (by simp)
    rw [tl]
    refine Ev.step (fun k => by rw [dag_Trim.l0, if_neg (by omega)]) ?_
    simpa using this
  | d + 1, n, F, N, h, hF, hN => by
    have hhi := hv.hi
    have hw : wrap64 ((n : Int) + 1) = ((n + 1 : Nat) : Int) := by rw [w64_in _ (by omega)]; omega
    rw [tl]
    by_cases e : us is left n = true
    · have e2 : rdOf false is n = true ∧ rd left n > 0 := by simpa [us] using e
      have ih := dtrim_loop hv is left his hle d (n + 1) (F ++ [(n : Int)]) ((N.set (n : Int).toNat (-1)).set (n : Int).toNat F.length) (by omega) (by simp; omega) (by simpa using hN)
      rw [if_pos e]
      refine Ev.step (fun k => ?_) ih
      rw [dag_Trim.l0, if_pos (by omega), if_pos (by omega), if_pos (by omega), Option.bind_some, if_pos (by omega), if_pos e2.1, if_pos (by omega), if_pos e2.2, if_pos (by omega), hw]
    · have ih := dtrim_loop hv is left his hle d (n + 1) F (N.set (n : Int).toNat (-1)) (by omega) (by omega) (by simpa using hN)
      rw [if_neg e]
      refine Ev.step (fun k => ?_) ih
      rw [dag_Trim.l0, if_pos (by omega), if_pos (by omega), if_pos (by omega), Option.bind_some, if_pos (by omega), hw]
      by_cases e1 : rdOf false is n = true
      · rw [if_pos e1, if_pos (by omega), if_neg (fun h2 => e (by simp [us, e1]; exact h2))]
      · rw [if_neg e1]
theorem dtrim_ev (a : Int) (l : List S69) : Ev (fun k => dag_Trim.f k a l) (trim a l) := by
  refine Ev.bind (valid_ev a l) ?_
  unfold trim
  by_cases h : valid a l = 0
  · have hv := (valid_VG a l).1 h
    have hlo := hv.lo
    have hhi := hv.hi
    have hwl := ways_length a l
    have hrl := reach_length a l
    rw [if_pos h]
    refine ev_pos h (Ev.bind (dreach_ev hv) (Ev.bind (dways_ev hv) (ev_pos (by omega) (ev_ite (fun _ => Ev.now _) (fun _ => ev_pos (by omega) (ev_pos (by omega) ?_))))))
    exact dtrim_loop hv (reach a l) (ways a l) (by omega) (by omega) a.toNat 0 [] (List.replicate a.toNat 0) (by omega) (by simp) (by simp; omega)
  · rw [if_neg h]; exact ev_neg h (Ev.now _)
theorem rtrim_arcs {a : Int} {l : List S69} (hv : VG a l) (F N : List Int) (hN : (N.length : Int) = a) (m : Int) : ∀ (d i : Nat) (acc : List S69), i + d = l.length → acc.length ≤ i → Ev (fun k => ancepsref09_Trim.l1 k F N i a l m acc) (m, acc ++ ta N (l.drop i), F, 0)
  | 0, i, acc, h, ha => by
    rw [List.drop_eq_nil_of_le (by omega)]
    refine Ev.step (f := fun _ => some (m, acc, F, 0)) (fun k => ?_) (by simpa [ta] using Ev.now _)
    rw [ancepsref09_Trim.l1, if_neg (by omega)]
  | d + 1, i, acc, h, ha => by
    have hi : i < l.length := by omega
    have hlen := hv.len
    have hw := wrap_succ i l.length hi (by omega)
    have hx := hv.arc _ (rdT_mem l i hi)
    rw [rdT_at l i hi, ta]
    by_cases e0 : rd N (rd_T69 l i).f0 ≥ 0
    · by_cases e1 : rd N (rd_T69 l i).f1 ≥ 0
      · have ih := rtrim_arcs hv F N hN m d (i + 1) (acc ++ [tarc N (rd_T69 l i)]) (by omega) (by simp; omega)
        rw [if_pos ⟨e0, e1⟩]
        rw [List.append_assoc, List.singleton_append] at ih
        refine Ev.step (fun k => ?_) ih
        rw [ancepsref09_Trim.l1, if_pos (by omega), if_pos (by omega), if_pos (by omega), if_pos (by omega), if_pos e0, if_pos (by omega), if_pos (by omega), if_pos e1, if_pos (by omega), hw]; rfl
      · have ih := rtrim_arcs hv F N hN m d (i + 1) acc (by omega) (by omega)
        rw [if_neg (by omega)]
        refine Ev.step (fun k => ?_) ih
        rw [ancepsref09_Trim.l1, if_pos (by omega), if_pos (by omega), if_pos (by omega), if_pos (by omega), if_pos e0, if_pos (by omega), if_pos (by omega), if_neg e1, hw]
    · have ih := rtrim_arcs hv F N hN m d (i + 1) acc (by omega) (by omega)
      rw [if_neg (by omega)]
      refine Ev.step (fun k => ?_) ih
      rw [ancepsref09_Trim.l1, if_pos (by omega), if_pos (by omega), if_pos (by omega), if_pos (by omega), if_neg e0, hw]
theorem rtrim_loop {a : Int} {l : List S69} (hv : VG a l) (is : List Bool) (left : List Int) (his : (is.length : Int) = a) (hle : (left.length : Int) = a) : ∀ (d n : Nat) (F N : List Int), (n : Int) + d = a → F.length ≤ n → (N.length : Int) = a →
    Ev (fun k => ancepsref09_Trim.l0 k is left F N n a l) (((tl is left d n F N).1.length : Int), ta (tl is left d n F N).2 l, (tl is left d n F N).1, 0)
  | 0, n, F, N, h, hF, hN => by
    have := rtrim_arcs hv F N hN F.length l.length 0 [] (by omega) (by simp)
    rw [tl]
    refine Ev.step (fun k => by rw [ancepsref09_Trim.l0, if_neg (by omega)]) ?_
    simpa using this
  | d + 1, n, F, N, h, hF, hN => by
    have hhi := hv.hi
    have hw : wrap64 ((n : Int) + 1) = ((n + 1 : Nat) : Int) := by rw [w64_in _ (by omega)]; omega
    rw [tl]
    by_cases e : us is left n = true
    · have e2 : rdOf false is n = true ∧ rd left n > 0 := by simpa [us] using e
      have ih := rtrim_loop hv is left his hle d (n + 1) (F ++ [(n : Int)]) ((N.set (n : Int).toNat (-1)).set (n : Int).toNat F.length) (by omega) (by simp; omega) (by simpa using hN)
      rw [if_pos e]
      refine Ev.step (fun k => ?_) ih
      rw [ancepsref09_Trim.l0, if_pos (by omega), if_pos (by omega), if_pos (by omega), Option.bind_some, if_pos (by omega), if_pos e2.1, if_pos (by omega), if_pos e2.2, if_pos (by omega), hw]
    · have ih := rtrim_loop hv is left his hle d (n + 1) F (N.set (n : Int).toNat (-1)) (by omega) (by omega) (by simpa using hN)
      rw [if_neg e]
      refine Ev.step (fun k => ?_) ih
      rw [ancepsref09_Trim.l0, if_pos (by omega), if_pos (by omega), if_pos (by omega), Option.bind_some, if_pos (by omega), hw]
      by_cases e1 : rdOf false is n = true
      · rw [if_pos e1, if_pos (by omega), if_neg (fun h2 => e (by simp [us, e1]; exact h2))]
      · rw [if_neg e1]
theorem rtrim_ev (a : Int) (l : List S69) : Ev (fun k => ancepsref09_Trim.f k a l) (trim a l) := by
  refine Ev.bind (rvalid_ev a l) ?_
  unfold trim
  by_cases h : valid a l = 0
  · have hv := (valid_VG a l).1 h
    have hlo := hv.lo
    have hhi := hv.hi
    have hwl := ways_length a l
    have hrl := reach_length a l
    rw [if_pos h]
    refine ev_pos h (Ev.bind (rreach_ev hv) (Ev.bind (rways_ev hv) (ev_pos (by omega) (ev_ite (fun _ => Ev.now _) (fun _ => ev_pos (by omega) (ev_pos (by omega) ?_))))))
    exact rtrim_loop hv (reach a l) (ways a l) (by omega) (by omega) a.toNat 0 [] (List.replicate a.toNat 0) (by omega) (by simp) (by simp; omega)
  · rw [if_neg h]; exact ev_neg h (Ev.now _)
/-! Useful nodes and their new numbers. -/
def cu (u : Int → Bool) : Nat → Nat
  | 0 => 0
  | n + 1 => cu u n + (if u n = true then 1 else 0)
theorem cu_mono (u : Int → Bool) (m : Nat) : ∀ d, cu u m ≤ cu u (m + d)
  | 0 => Nat.le_refl _
  | d + 1 => by have := cu_mono u m d; rw [← Nat.add_assoc, cu]; omega
theorem cu_lt (u : Int → Bool) {m n : Nat} (h : u m = true) (hmn : m < n) : cu u m < cu u n := by
  have h1 := cu_mono u (m + 1) (n - (m + 1))
  rw [show m + 1 + (n - (m + 1)) = n by omega, cu, if_pos h] at h1
  omega
theorem cu_onto (u : Int → Bool) : ∀ (n m : Nat), m < cu u n → ∃ t, t < n ∧ u t = true ∧ cu u t = m
  | 0, m, h => by simp [cu] at h
  | n + 1, m, h => by
    by_cases h1 : m < cu u n
    · obtain ⟨t, h2, h3⟩ := cu_onto u n m h1
      exact ⟨t, by omega, h3⟩
    · rw [cu] at h
      by_cases hu : u n = true
      · rw [if_pos hu] at h
        exact ⟨n, by omega, hu, by omega⟩
      · rw [if_neg hu] at h; omega
theorem cu_all (u : Int → Bool) : ∀ n : Nat, (∀ t : Nat, t < n → u t = true) → cu u n = n
  | 0, _ => rfl
  | n + 1, h => by rw [cu, cu_all u n (fun t ht => h t (by omega)), if_pos (h n (by omega))]
theorem tl_spec (is : List Bool) (left : List Int) (a : Int) : ∀ (d n : Nat) (F N : List Int), (n : Int) + d = a → F.length = cu (us is left) n → (N.length : Int) = a → (∀ t : Nat, t < n → rd N t = if us is left t = true then (cu (us is left) t : Int) else -1) →
    (tl is left d n F N).1.length = cu (us is left) (n + d) ∧ ∀ t : Nat, t < n + d → rd (tl is left d n F N).2 t = if us is left t = true then (cu (us is left) t : Int) else -1
  | 0, n, F, N, h, hF, hN, ht => ⟨hF, ht⟩
  | d + 1, n, F, N, h, hF, hN, ht => by
    rw [tl, show n + (d + 1) = n + 1 + d by omega]
    by_cases e : us is left n = true
    · rw [if_pos e]
      refine tl_spec is left a d (n + 1) (F ++ [(n : Int)]) _ (by omega) (by rw [List.length_append, cu, if_pos e, hF]; rfl) (by simpa using hN) (fun t htn => ?_)
      rw [rd_set _ _ _ _ (by omega) (by simp; omega) (by omega), rd_set _ _ _ _ (by omega) (by omega) (by omega)]
      by_cases et : (n : Int) = t
      · have et' : n = t := by omega
        subst et'
        rw [if_pos rfl, if_pos e, hF]
      · rw [if_neg et, if_neg et]; exact ht t (by omega)
    · rw [if_neg e]
      refine tl_spec is left a d (n + 1) F _ (by omega) (by rw [cu, if_neg e, hF, Nat.add_zero]) (by simpa using hN) (fun t htn => ?_)
      rw [rd_set _ _ _ _ (by omega) (by omega) (by omega)]
      by_cases et : (n : Int) = t
      · have et' : n = t := by omega
        subst et'
        rw [if_pos rfl, if_neg e]
      · rw [if_neg et]; exact ht t (by omega)
theorem tr_spec {a : Int} (h0 : 1 ≤ a) (l : List S69) : (tr a l).1.length = cu (us (reach a l) (ways a l)) a.toNat ∧ ∀ t : Nat, (t : Int) < a → rd (tr a l).2 t = if us (reach a l) (ways a l) t = true then (cu (us (reach a l) (ways a l)) t : Int) else -1 := by
  have := tl_spec (reach a l) (ways a l) a a.toNat 0 [] (List.replicate a.toNat 0) (by omega) rfl (by simp; omega) (fun t ht => by omega)
  rw [Nat.zero_add] at this
  exact ⟨this.1, fun t ht => this.2 t (by omega)⟩
theorem Rch.trans {l : List S69} {t n m : Int} (h : Rch l m n) (k : Rch l t m) : Rch l t n := by
  induction h with
  | refl => exact k
  | cons x hx _ ih => exact .cons x hx ih
theorem us_iff {a : Int} {l : List S69} (hv : VG a l) {n : Int} (h0 : 0 ≤ n) (h1 : n < a) : us (reach a l) (ways a l) n = true ↔ Rch l n 0 ∧ Rch l (a - 1) n := by
  unfold us
  rw [Bool.and_eq_true, decide_eq_true_eq, reach_iff hv h0]
  exact and_congr_right fun _ => ways_iff hv h0 h1
/-- What Trim returns stays as it is under Trim. -/
theorem trim_two {a : Int} {l : List S69} (h : (trim a l).2.2.2 = 0) : ∃ F, trim (trim a l).1 (trim a l).2.1 = ((trim a l).1, (trim a l).2.1, F, 0) ∧ (F.length : Int) = (trim a l).1 := by
  have hval : valid a l = 0 := by
    by_cases hv : valid a l = 0
    · exact hv
    · unfold trim at h; rw [if_neg hv] at h; exact absurd h hv
  have hv := (valid_VG a l).1 hval
  have hlo := hv.lo
  have hhi := hv.hi
  have hw0 : ¬ rd (ways a l) 0 = 0 := by
    intro hw
    unfold trim at h; rw [if_pos hval, if_pos hw] at h; simp at h
  have hR : Rch l (a - 1) 0 := (ways_iff hv (by omega) (by omega)).1 (by have := (ways_bd a l 0).1; omega)
  obtain ⟨hF, hN⟩ := tr_spec hlo l
  have e1 : (trim a l).1 = ((tr a l).1.length : Int) := by unfold trim; rw [if_pos hval, if_neg hw0]
  have e2 : (trim a l).2.1 = ta (tr a l).2 l := by unfold trim; rw [if_pos hval, if_neg hw0]
  rw [e1, e2]
  generalize hu : us (reach a l) (ways a l) = u at hF hN
  have ui : ∀ n : Nat, (n : Int) < a → (u n = true ↔ Rch l n 0 ∧ Rch l (a - 1) n) := fun n hn => by rw [← hu]; exact us_iff hv (by omega) hn
  have u0 : u (0 : Nat) = true := (ui 0 (by omega)).2 ⟨.refl, hR⟩
  have ue : u (a - 1).toNat = true := (ui _ (by omega)).2 ⟨by rw [show (((a - 1).toNat : Nat) : Int) = a - 1 by omega]; exact hR, by rw [show (((a - 1).toNat : Nat) : Int) = a - 1 by omega]; exact .refl⟩
  have hpos : cu u 0 < cu u a.toNat := cu_lt u u0 (by omega)
  have hNu : ∀ n : Int, 0 ≤ n → n < a → Rch l n 0 → Rch l (a - 1) n → rd (tr a l).2 n = cu u n.toNat := by
    intro n h0 h1 h2 h3
    have := hN n.toNat (by omega)
    rw [show ((n.toNat : Nat) : Int) = n by omega, if_pos (by have := (ui n.toNat (by omega)).2; rw [show ((n.toNat : Nat) : Int) = n by omega] at this; exact this ⟨h2, h3⟩)] at this
    exact this
  have hNr : ∀ n : Int, 0 ≤ n → n < a → rd (tr a l).2 n ≥ 0 → (Rch l n 0 ∧ Rch l (a - 1) n) := by
    intro n h0 h1 h2
    have := hN n.toNat (by omega)
    rw [show ((n.toNat : Nat) : Int) = n by omega] at this
    by_cases hun : u n = true
    · have h3 := (ui n.toNat (by omega)).1
      rw [show ((n.toNat : Nat) : Int) = n by omega] at h3
      exact h3 hun
    · rw [if_neg hun] at this; omega
  have hlast : cu u (a - 1).toNat + 1 = cu u a.toNat := by
    have e : a.toNat = (a - 1).toNat + 1 := by omega
    rw [e, cu, if_pos ue]
  -- the trimmed graph has no error
  have hv' : VG ((tr a l).1.length : Int) (ta (tr a l).2 l) := by
    have hca : cu u a.toNat ≤ a.toNat := by
      have : ∀ n, cu u n ≤ n := fun n => by induction n with
        | zero => simp [cu]
        | succ n ih => rw [cu]; split <;> omega
      exact this _
    refine ⟨by omega, by omega, by have := ta_length (tr a l).2 l; have := hv.len; omega, fun y hy => ?_⟩
    obtain ⟨x, hx, h1, h2, rfl⟩ := (ta_mem _ _ _).1 hy
    have hxa := hv.arc x hx
    have k0 := hNr x.f0 (by omega) (by omega) h1
    have k1 := hNr x.f1 (by omega) (by omega) h2
    have n0 := hNu x.f0 (by omega) (by omega) k0.1 k0.2
    have n1 := hNu x.f1 (by omega) (by omega) k1.1 k1.2
    have m0 := (ui x.f0.toNat (by omega)).2 (by rw [show ((x.f0.toNat : Nat) : Int) = x.f0 by omega]; exact k0)
    have m1 := (ui x.f1.toNat (by omega)).2 (by rw [show ((x.f1.toNat : Nat) : Int) = x.f1 by omega]; exact k1)
    have l0 := cu_lt u m0 (show x.f0.toNat < x.f1.toNat by omega)
    have l1 := cu_lt u m1 (show x.f1.toNat < a.toNat by omega)
    show 0 ≤ rd (tr a l).2 x.f0 ∧ rd (tr a l).2 x.f0 < rd (tr a l).2 x.f1 ∧ rd (tr a l).2 x.f1 < _ ∧ 0 ≤ x.f2 ∧ x.f2 ≤ 1000000
    omega
  -- ways in it
  have arc' : ∀ x, x ∈ l → Rch l x.f0 0 → Rch l (a - 1) x.f1 → tarc (tr a l).2 x ∈ ta (tr a l).2 l := by
    intro x hx k0 k1
    have hxa := hv.arc x hx
    have n0 := hNu x.f0 (by omega) (by omega) k0 (.cons x hx k1)
    have n1 := hNu x.f1 (by omega) (by omega) (k0.snoc x hx rfl) k1
    exact (ta_mem _ _ _).2 ⟨x, hx, by omega, by omega, rfl⟩
  have toEnd : ∀ n, Rch l (a - 1) n → Rch l n 0 → Rch (ta (tr a l).2 l) (rd (tr a l).2 (a - 1)) (rd (tr a l).2 n) := by
    intro n hn
    induction hn with
    | refl => intro _; exact .refl
    | cons x hx hr ih => intro k0; exact .cons (tarc (tr a l).2 x) (arc' x hx k0 hr) (ih (k0.snoc x hx rfl))
  have fromStart : ∀ m n, Rch l m n → Rch l (a - 1) m → Rch l n 0 → Rch (ta (tr a l).2 l) (rd (tr a l).2 n) (rd (tr a l).2 0) → Rch (ta (tr a l).2 l) (rd (tr a l).2 m) (rd (tr a l).2 0) := by
    intro m n hmn hm
    induction hmn with
    | refl => intro _ h; exact h
    | cons x hx hr ih =>
      intro k0 k1
      exact ih (k0.snoc x hx rfl) (k1.snoc (tarc (tr a l).2 x) (arc' x hx k0 (hr.trans hm)) rfl)
  have N0 : rd (tr a l).2 0 = 0 := by have := hNu 0 (by omega) (by omega) .refl hR; rw [this]; rfl
  have Ne : rd (tr a l).2 (a - 1) = ((tr a l).1.length : Int) - 1 := by
    have := hNu (a - 1) (by omega) (by omega) hR .refl
    omega
  have all' : ∀ t : Nat, t < (tr a l).1.length → us (reach ((tr a l).1.length : Int) (ta (tr a l).2 l)) (ways ((tr a l).1.length : Int) (ta (tr a l).2 l)) t = true := by
    intro t ht
    obtain ⟨n, hn, hun, hcn⟩ := cu_onto u a.toNat t (by omega)
    have k := (ui n (by omega)).1 hun
    have nn := hNu n (by omega) (by omega) k.1 k.2
    rw [show ((n : Int)).toNat = n by omega, hcn] at nn
    refine (us_iff hv' (by omega) (by omega)).2 ⟨?_, ?_⟩
    · have := fromStart n 0 k.1 k.2 .refl .refl
      rw [nn, N0] at this
      exact this
    · have := toEnd n k.2 k.1
      rw [nn, Ne] at this
      exact this
  obtain ⟨hF', hN'⟩ := tr_spec (show (1 : Int) ≤ ((tr a l).1.length : Int) by omega) (ta (tr a l).2 l)
  rw [cu_all _ _ (fun t ht => all' t (by omega))] at hF'
  have id' : ∀ n : Int, 0 ≤ n → n < ((tr a l).1.length : Int) → rd (tr ((tr a l).1.length : Int) (ta (tr a l).2 l)).2 n = n := by
    intro n h0 h1
    have := hN' n.toNat (by omega)
    rw [show ((n.toNat : Nat) : Int) = n by omega] at this
    rw [this, if_pos (by have := all' n.toNat (by omega); rw [show ((n.toNat : Nat) : Int) = n by omega] at this; exact this), cu_all _ _ (fun t ht => all' t (by omega))]
    omega
  have taid : ∀ s : List S69, (∀ x, x ∈ s → 0 ≤ x.f0 ∧ x.f0 < x.f1 ∧ x.f1 < ((tr a l).1.length : Int)) → ta (tr ((tr a l).1.length : Int) (ta (tr a l).2 l)).2 s = s := by
    intro s hs
    induction s with
    | nil => rfl
    | cons x s ih =>
      have hx := hs x List.mem_cons_self
      have i0 := id' x.f0 (by omega) (by omega)
      have i1 := id' x.f1 (by omega) (by omega)
      rw [ta, if_pos (by rw [i0, i1]; omega), ih (fun y hy => hs y (List.mem_cons_of_mem _ hy))]
      congr 1
      unfold tarc
      rw [i0, i1]
  have hw0' : ¬ rd (ways ((tr a l).1.length : Int) (ta (tr a l).2 l)) 0 = 0 := by
    have h1 := all' 0 (by omega)
    have h2 := ((us_iff hv' (n := ((0 : Nat) : Int)) (by omega) (by omega)).1 h1).2
    have h3 := (ways_iff hv' (n := 0) (by omega) (by omega)).2 h2
    omega
  refine ⟨(tr ((tr a l).1.length : Int) (ta (tr a l).2 l)).1, ?_, by omega⟩
  have hl' : (((tr ((tr a l).1.length : Int) (ta (tr a l).2 l)).1.length : Nat) : Int) = ((tr a l).1.length : Int) := by omega
  unfold trim
  rw [if_pos ((valid_VG _ _).2 hv'), if_neg hw0', hl', taid _ (fun x hx => by have := hv'.arc x hx; omega)]
end Go.Proofs.Ytanbffoilianhaa.Pure
