/- The plain law behind R: about the printed functions alone, no memory and no Go in it. -/
import Derived.Test.YtanbffoilianhaaPureB
import Derived.Test.YtanbffoilianhaaE15
import Derived.Test.YtanbffoilianhaaE17
namespace Go.Proofs.Ytanbffoilianhaa.Pure
open Go.RowKit Go.Proofs.YtanbffoilianhaaW.PrintWords Go.Proofs.Ytanbffoilianhaa.E
set_option linter.unusedVariables false
set_option linter.unusedSimpArgs false
/-! ### Reverse, Same -/
def rvx (a : Int) (x : S69) : S69 := ⟨a - 1 - x.f1, a - 1 - x.f0, x.f2⟩
def rev (a : Int) (l : List S69) : Int × List S69 × Int := if valid a l = 0 then (a, l.map (rvx a), 0) else (0, [], valid a l)
theorem rvx_two (a : Int) (x : S69) : rvx a (rvx a x) = x := by
  cases x; simp only [rvx]; congr 1 <;> omega
theorem map_rvx_two (a : Int) (l : List S69) : (l.map (rvx a)).map (rvx a) = l := by
  rw [List.map_map]; simp [Function.comp_def, rvx_two]
theorem VG.rev {a : Int} {l : List S69} (h : VG a l) : VG a (l.map (rvx a)) :=
  ⟨h.lo, h.hi, by simpa using h.len, fun x hx => by
    obtain ⟨y, hy, rfl⟩ := List.mem_map.1 hx
    have := h.arc y hy
    simp only [rvx]; omega⟩
theorem rdT_mem (l : List S69) (i : Nat) (hi : i < l.length) : rd_T69 l i ∈ l := by
  have h2 : rd_T69 l i ∈ l.drop i := by rw [rdT_at l i hi]; exact List.mem_cons_self
  exact List.mem_of_mem_drop h2
theorem drev_loop {a : Int} {l : List S69} (hv : VG a l) : ∀ (d i : Nat) (acc : List S69), i + d = l.length → acc.length = i → Ev (fun k => dag_Reverse.l0 k (a - 1) l l.length i a acc) (a, acc ++ (l.drop i).map (rvx a), 0)
  | 0, i, acc, h, ha => by
    rw [List.drop_eq_nil_of_le (by omega), List.map_nil, List.append_nil]
    refine Ev.step (f := fun _ => some (a, acc, 0)) (fun k => ?_) (Ev.now _)
    rw [dag_Reverse.l0, if_neg (by omega)]
  | d + 1, i, acc, h, ha => by
    have hi : i < l.length := by omega
    have hlen := hv.len
    have hal := hv.lo
    have hah := hv.hi
    have hw := wrap_succ i l.length hi (by omega)
    have hx := hv.arc _ (rdT_mem l i hi)
    have ih := drev_loop hv d (i + 1) (acc ++ [rvx a (rd_T69 l i)]) (by omega) (by simp [ha])
    rw [rdT_at l i hi, List.map_cons]
    rw [List.append_assoc, List.singleton_append] at ih
    refine Ev.step (fun k => ?_) ih
    rw [dag_Reverse.l0, if_pos (by omega), if_pos (by omega), if_pos (by omega), if_pos (by omega), hw, w64_in _ (by omega), w64_in _ (by omega)]; rfl
theorem drev_ev (a : Int) (l : List S69) : Ev (fun k => dag_Reverse.f k a l) (rev a l) := by
  refine Ev.bind (valid_ev a l) ?_
  unfold rev
  by_cases h : valid a l = 0
  · have hv := (valid_VG a l).1 h
    have hal := hv.lo
    have hah := hv.hi
    rw [if_pos h, w64_in _ (by omega)]
    exact ev_pos h (by simpa using drev_loop hv l.length 0 [] (by omega) rfl)
  · rw [if_neg h]; exact ev_neg h (Ev.now _)
theorem rrev_loop {a : Int} {l : List S69} (hv : VG a l) : ∀ (d i : Nat) (acc : List S69), i + d = l.length → acc.length = i → Ev (fun k => ancepsref09_Reverse.l0 k i a l a acc) (a, acc ++ (l.drop i).map (rvx a), 0)
  | 0, i, acc, h, ha => by
    rw [List.drop_eq_nil_of_le (by omega), List.map_nil, List.append_nil]
    refine Ev.step (f := fun _ => some (a, acc, 0)) (fun k => ?_) (Ev.now _)
    rw [ancepsref09_Reverse.l0, if_neg (by omega)]
  | d + 1, i, acc, h, ha => by
    have hi : i < l.length := by omega
    have hlen := hv.len
    have hal := hv.lo
    have hah := hv.hi
    have hw := wrap_succ i l.length hi (by omega)
    have hx := hv.arc _ (rdT_mem l i hi)
    have ih := rrev_loop hv d (i + 1) (acc ++ [rvx a (rd_T69 l i)]) (by omega) (by simp [ha])
    rw [rdT_at l i hi, List.map_cons]
    rw [List.append_assoc, List.singleton_append] at ih
    refine Ev.step (fun k => ?_) ih
    rw [ancepsref09_Reverse.l0, if_pos (by omega), if_pos (by omega), if_pos (by omega), hw, w64_in (a - 1) (by omega), w64_in _ (by omega), w64_in _ (by omega)]; rfl
theorem rrev_ev (a : Int) (l : List S69) : Ev (fun k => ancepsref09_Reverse.f k a l) (rev a l) := by
  refine Ev.bind (rvalid_ev a l) ?_
  unfold rev
  by_cases h : valid a l = 0
  · have hv := (valid_VG a l).1 h
    rw [if_pos h]
    exact ev_pos h (by simpa using rrev_loop hv l.length 0 [] (by omega) rfl)
  · rw [if_neg h]; exact ev_neg h (Ev.now _)
theorem same_loop (a : Int) (l : List S69) (hl : (l.length : Int) ≤ 9223372036854775807) : ∀ (d i : Nat), i + d = l.length → Ev (fun k => ancepsref09_Same.l0 k i a l a l) true
  | 0, i, h => Ev.step (f := fun _ => some true) (fun k => by rw [ancepsref09_Same.l0, if_neg (by omega)]) (Ev.now _)
  | d + 1, i, h => by
    have hw := wrap_succ i l.length (by omega) hl
    refine Ev.step (fun k => ?_) (same_loop a l hl d (i + 1) (by omega))
    rw [ancepsref09_Same.l0, if_pos (by omega), if_pos (by omega), if_pos (by omega), if_neg (by simp), hw]
theorem same_ev (a : Int) (l : List S69) (hl : (l.length : Int) ≤ 9223372036854775807) : Ev (fun k => ancepsref09_Same.f k a l a l) true := by
  unfold ancepsref09_Same.f
  refine ev_pos rfl (Ev.step (fun k => ?_) (same_loop a l hl l.length 0 (by omega)))
  rw [ancepsref09_Same.j0, if_neg (by simp)]; rfl
theorem rev_le (a : Int) (l : List S69) : ((rev a l).2.1.length : Int) ≤ 6000 := by
  unfold rev
  split
  · rename_i h; simpa using ((valid_VG a l).1 h).len
  · simp
theorem rev_two {a : Int} {l : List S69} (h : (rev a l).2.2 = 0) : rev (rev a l).1 (rev a l).2.1 = (a, l, 0) := by
  unfold rev at h
  by_cases hv : valid a l = 0
  · have h2 : valid a (l.map (rvx a)) = 0 := (valid_VG _ _).2 ((valid_VG _ _).1 hv).rev
    rw [show rev a l = (a, l.map (rvx a), 0) by unfold rev; rw [if_pos hv]]
    unfold rev
    simp only [if_pos h2, map_rvx_two]
  · rw [if_neg hv] at h; exact absurd h hv
end Go.Proofs.Ytanbffoilianhaa.Pure
