/- The plain law behind SolveFirst: about the printed functions alone, no memory and no Go in it. -/
import Derived.Test.YtbagnalcabdlhaaPureRS
import Derived.Test.YtbagnalcabdlhaaS16
import Derived.Test.YtbagnalcabdlhaaS17
namespace Go.Proofs.Ytbagnalcabdlhaa.Pure
open Go.RowKit Go.Proofs.YtbagnalcabdlhaaW.PrintWords Go.Proofs.Ytbagnalcabdlhaa.S
set_option linter.unusedVariables false
set_option linter.unusedSimpArgs false
/-! ### SolveFirst -/
def cnt1 (l : List S61) : Int × Int := if sysv l = 0 then (((SS l).length : Int), 0) else (0, sysv l)
theorem count_of : ∀ (s : List Int) (n : Nat), n + s.length ≤ 40000000 → s.foldl (fun (n : Int) _ => wrap64 (n + 1)) (n : Int) = ((n + s.length : Nat) : Int)
  | [], n, _ => by simp
  | x :: xs, n, h => by
    rw [List.length_cons] at h
    have hw : wrap64 ((n : Int) + 1) = ((n + 1 : Nat) : Int) := by rw [w64_in _ (by omega)]; omega
    rw [List.foldl_cons, hw, count_of xs (n + 1) (by omega), List.length_cons]
    omega
theorem dcount_ev (l : List S61) (hs : Sm l) (hl : l.length ≤ 1000) : Ev (fun k => solve_Count.f k l) (cnt1 l) := by
  refine Ev.bind (svalid_ev l hs hl) (ev_ite (fun h => Ev.bind (occ_ev l hs hl) (Ev.bind (allsearch_ev ((sysv_VS l).1 h)) ?_)) (fun _ => Ev.now _))
  refine ev_eq (Ev.now _) ?_
  have := count_of (SS l) 0 (by have := SS_len ((sysv_VS l).1 h); omega)
  rw [Nat.zero_add] at this
  unfold solve_Count.of
  rw [show (0 : Int) = ((0 : Nat) : Int) from rfl, this]
theorem rfirst_ev (l : List S61) (hs : Sm l) (hl : l.length ≤ 1000) : Ev (fun k => ancepsref40_First.f k l) (fst1 l) := by
  refine Ev.bind (rsvalid_ev l hs hl) (ev_ite (fun h => Ev.bind (show Ev (fun k => ancepsref40_solutions.f k l 1) ((SS l).take 1) from rsol_ev ((sysv_VS l).1 h) hs 1 (by decide)) ?_) (fun _ => Ev.now _))
  cases SS l with
  | nil => exact ev_pos rfl (Ev.now _)
  | cons x xs => exact ev_neg (by simp) (ev_pos (by simp) (Ev.now _))
theorem rall_ev (l : List S61) (hs : Sm l) (hl : l.length ≤ 1000) : Ev (fun k => ancepsref40_All.f k l) (all1 l) := by
  refine Ev.bind (rsvalid_ev l hs hl) (ev_ite (fun h => Ev.bind (show Ev (fun k => ancepsref40_solutions.f k l 1001) ((SS l).take 1001) from rsol_ev ((sysv_VS l).1 h) hs 1001 (by decide)) ?_) (fun _ => Ev.now _))
  unfold solve_All.of
  by_cases hle : (SS l).length ≤ 1000
  · rw [if_pos hle, List.take_of_length_le (by omega)]
    exact ev_neg (by omega) (Ev.now _)
  · rw [if_neg hle]
    exact ev_pos (by rw [List.length_take]; omega) (Ev.now _)
theorem rcount_ev (l : List S61) (hs : Sm l) (hl : l.length ≤ 1000) : Ev (fun k => ancepsref40_Count.f k l) (cnt1 l) := by
  refine Ev.bind (rsvalid_ev l hs hl) (ev_ite (fun h => Ev.bind (show Ev (fun k => ancepsref40_solutions.f k l 33554432) ((SS l).take 33554432) from rsol_ev ((sysv_VS l).1 h) hs 33554432 (by decide)) ?_) (fun _ => Ev.now _))
  rw [List.take_of_length_le (by have := SS_len ((sysv_VS l).1 h); omega)]
  exact Ev.now _
def vrs (l : List S61) : List Int := if sysv l = 0 then occ l else []
theorem dvars_ev (l : List S61) (hs : Sm l) (hl : l.length ≤ 1000) : Ev (fun k => solve_Vars.f k l) (vrs l) :=
  Ev.bind (svalid_ev l hs hl) (ev_ite (fun _ => Ev.bind (occ_ev l hs hl) (Ev.now _)) (fun _ => Ev.now _))
theorem rvars1_ev (l : List S61) (hs : Sm l) (hl : l.length ≤ 1000) : Ev (fun k => ancepsref40_Vars.f k l) (vrs l) := by
  unfold vrs
  by_cases h : sysv l = 0
  · rw [if_pos h]; exact rvars_ev ((sysv_VS l).1 h) hs
  · rw [if_neg h]; exact Ev.bind (rsvalid_ev l hs hl) (ev_neg h (Ev.now _))
theorem all1_len (l : List S61) : (all1 l).1.length ≤ 1000 := by
  unfold all1 solve_All.of
  repeat' split
  · assumption
  · simp
  · simp
theorem vrs_len (l : List S61) : (vrs l).length ≤ 1000 := by
  unfold vrs
  split
  · rename_i h; have := ((sysv_VS l).1 h).occ_len; omega
  · simp
theorem solveFirst_ev (l : List S61) : Ev (fun k => ancepslaw40_SolveFirst.f k l) true := by
  unfold ancepslaw40_SolveFirst.f
  refine Ev.bind awake_ev (ev_pos rfl ?_)
  have hno : Ev (fun k => ancepslaw40_SolveFirst.j0 k l true) true := Ev.step (fun k => by rw [ancepslaw40_SolveFirst.j0, if_pos rfl]) awake_bind
  obtain ⟨b, hb, hq⟩ := sfew_ev l
  refine Ev.bind hb ?_
  cases b
  · exact hno
  · obtain ⟨h1, h2⟩ := hq rfl
    have hl : l.length ≤ 1000 := by omega
    have a1 := all1_len l
    have v1 := vrs_len l
    refine Ev.step (fun k => by rw [ancepslaw40_SolveFirst.j0, if_neg (by simp)]) ?_
    refine Ev.bind (dfirst_ev l h1 hl) (Ev.bind (rfirst_ev l h1 hl) (Ev.bind (dall_ev l h1 hl) (Ev.bind (rall_ev l h1 hl) (Ev.bind (dcount_ev l h1 hl) (Ev.bind (rcount_ev l h1 hl) (ev_pos rfl (ev_pos rfl ?_)))))))
    refine Ev.bind (sequal_ev _ (by omega)) (ev_pos rfl (ev_pos rfl (ev_pos rfl (ev_pos rfl ?_))))
    exact Ev.bind (dvars_ev l h1 hl) (Ev.bind (rvars1_ev l h1 hl) (Ev.bind (sequal_ev _ (by omega)) (Ev.now _)))
theorem SolveFirst (l0 : List (S61)) (w_l0 : ∀ x, x ∈ l0 → (∀ y, y ∈ x.f0 → (Lit.int .i64 y).wf = true) ∧ (∀ y, y ∈ x.f1 → (Lit.int .i64 y).wf = true)) : ∃ k, S.ancepslaw40_SolveFirst.f k l0 = some true := ev_rounds (solveFirst_ev l0)
end Go.Proofs.Ytbagnalcabdlhaa.Pure
