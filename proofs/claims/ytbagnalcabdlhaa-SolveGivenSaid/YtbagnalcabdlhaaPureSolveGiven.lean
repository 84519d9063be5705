/- The plain law behind SolveGiven: about the printed functions alone, no memory and no Go in it. -/
import Derived.Test.YtbagnalcabdlhaaPureW
import Derived.Test.YtbagnalcabdlhaaS13
import Derived.Test.YtbagnalcabdlhaaS14
namespace Go.Proofs.Ytbagnalcabdlhaa.Pure
open Go.RowKit Go.Proofs.YtbagnalcabdlhaaW.PrintWords Go.Proofs.Ytbagnalcabdlhaa.S
set_option linter.unusedVariables false
set_option linter.unusedSimpArgs false
theorem clone_eq (l : List Int) (h : l.length < 17592186044416) : slices_Clone_int_int.f l = some l := by
  unfold slices_Clone_int_int.f
  simp only [Option.bind_some, List.length_nil, List.nil_append, if_pos (show 0 + l.length < 17592186044416 by omega)]
theorem lists_loop (l : List Int) (hl : (l.length : Int) ≤ 9223372036854775807) : ∀ (d i : Nat), i + d = l.length → Ev (fun k => ancepsref38_Lists.l0 k l l i) true
  | 0, i, h => Ev.step (f := fun _ => some true) (fun k => by rw [ancepsref38_Lists.l0, if_neg (by omega)]) (Ev.now _)
  | d + 1, i, h => by
    have hw := wrap_succ i l.length (by omega) hl
    refine Ev.step (fun k => ?_) (lists_loop l hl d (i + 1) (by omega))
    rw [ancepsref38_Lists.l0, if_pos (by omega), if_pos (by omega), if_pos (by omega), if_pos rfl, hw]
theorem lists_ev (l : List Int) (hl : (l.length : Int) ≤ 9223372036854775807) : Ev (fun k => ancepsref38_Lists.f k l l) true :=
  ev_pos rfl (lists_loop l hl l.length 0 (by omega))
theorem equal_ev (vs rs : List Int) (hl : (vs.length : Int) ≤ 9223372036854775807) (hr : (rs.length : Int) ≤ 9223372036854775807) : Ev (fun k => ancepsref38_Equal.f k vs rs vs rs) true :=
  Ev.bind (lists_ev vs hl) (ev_pos rfl (Ev.bind (lists_ev rs hr) (Ev.now _)))
/-! ### Given -/
def giv (l : List S61) (v x : Int) : List S61 × Int := if sysv l = 0 then (if v < 0 then ([], 6) else if v ≥ 24 then ([], 6) else if x < 0 then ([], 6) else if x > 1 then ([], 6) else if (l.length : Int) = 16 then ([], 3) else (l ++ [⟨[v], [x]⟩], 0)) else ([], sysv l)
theorem given_loop (l : List S61) (hs : Sm l) (hl : l.length ≤ 1000) (v x : Int) : ∀ (d i : Nat) (acc : List S61), i + d = l.length → acc.length ≤ i → Ev (fun k => solve_Given.l0 k v x acc l l.length i) ((acc ++ l.drop i) ++ [⟨[v], [x]⟩], 0)
  | 0, i, acc, h, ha => by
    rw [List.drop_eq_nil_of_le (by omega), List.append_nil]
    exact Ev.step (fun k => by rw [solve_Given.l0, if_neg (by omega), if_pos (by omega)]) (Ev.now _)
  | d + 1, i, acc, h, ha => by
    have hi : i < l.length := by omega
    have hw := wrap_succ i l.length hi (by omega)
    have hm := hs _ (rdT_mem l i hi)
    have ih := given_loop l hs hl v x d (i + 1) (acc ++ [rd_T61 l i]) (by omega) (by simp; omega)
    rw [List.append_assoc acc, List.singleton_append, ← rdT_at l i hi] at ih
    refine Ev.step (fun k => ?_) ih
    rw [solve_Given.l0, if_pos (by omega), if_pos (by omega), if_pos (by omega), clone_eq _ (by omega), clone_eq _ (by omega), hw]
    simp only [Option.bind_some]
    rw [if_pos (by omega)]
theorem dgiv_ev (l : List S61) (hs : Sm l) (hl : l.length ≤ 1000) (v x : Int) : Ev (fun k => solve_Given.f k l v x) (giv l v x) := by
  have hno : Ev (fun k => solve_Given.j0 k l v x true) ([], 6) := Ev.step (f := fun _ => some ([], 6)) (fun k => by rw [solve_Given.j0, if_pos rfl]) (Ev.now _)
  refine Ev.bind (svalid_ev l hs hl) (ev_ite (fun _ => ev_ite (fun _ => hno) (fun _ => ev_ite (fun _ => hno) (fun _ => ev_ite (fun _ => hno) (fun _ => ?_)))) (fun _ => Ev.now _))
  by_cases h1 : x > 1
  · rw [if_pos h1, decide_eq_true h1]; exact hno
  · rw [if_neg h1, decide_eq_false h1]
    refine Ev.step (fun k => by rw [solve_Given.j0, if_neg Bool.false_ne_true]) (ev_ite (fun _ => Ev.now _) (fun _ => ?_))
    have := given_loop l hs hl v x l.length 0 [] (by omega) (by simp)
    rw [List.drop_zero, List.nil_append] at this
    exact this
theorem rgiv_ev (l : List S61) (hs : Sm l) (hl : l.length ≤ 1000) (v x : Int) : Ev (fun k => ancepsref40_Given.f k l v x) (giv l v x) := by
  have hno : Ev (fun k => ancepsref40_Given.j0 k l v x true) ([], 6) := Ev.step (f := fun _ => some ([], 6)) (fun k => by rw [ancepsref40_Given.j0, if_pos rfl]) (Ev.now _)
  refine Ev.bind (rsvalid_ev l hs hl) (ev_ite (fun _ => ev_ite (fun _ => hno) (fun _ => ?_)) (fun _ => Ev.now _))
  by_cases h2 : v ≥ 24
  · rw [if_pos h2]; exact ev_pos (by omega) hno
  · rw [if_neg h2]
    refine ev_neg (by omega) (ev_ite (fun _ => hno) (fun _ => ?_))
    by_cases h1 : x > 1
    · rw [if_pos h1, decide_eq_true h1]; exact hno
    · rw [if_neg h1, decide_eq_false h1]
      refine Ev.step (fun k => by rw [ancepsref40_Given.j0, if_neg Bool.false_ne_true]) (ev_ite (fun _ => Ev.now _) (fun _ => ?_))
      refine Ev.bind (Ev.now []) (ev_pos (by simp; omega) (Ev.bind (Ev.now ([] ++ l)) (ev_pos (by simp; omega) ?_)))
      exact ev_eq (Ev.now _) (by rw [List.nil_append])
theorem same_loop (l : List S61) (hs : Sm l) (hl : l.length ≤ 1000) : ∀ (d i : Nat), i + d = l.length → Ev (fun k => ancepsref40_SameTables.l0 k l l i) true
  | 0, i, h => Ev.step (f := fun _ => some true) (fun k => by rw [ancepsref40_SameTables.l0, if_neg (by omega)]) (Ev.now _)
  | d + 1, i, h => by
    have hi : i < l.length := by omega
    have hw := wrap_succ i l.length hi (by omega)
    have hm := hs _ (rdT_mem l i hi)
    exact Ev.step (fun k => by rw [ancepsref40_SameTables.l0, if_pos (by omega), if_pos (by omega), if_pos (by omega), hw]) (Ev.bind (equal_ev _ _ (by omega) (by omega)) (ev_pos rfl (same_loop l hs hl d (i + 1) (by omega))))
theorem same_ev (l : List S61) (hs : Sm l) (hl : l.length ≤ 1000) : Ev (fun k => ancepsref40_SameTables.f k l l) true := ev_pos rfl (same_loop l hs hl l.length 0 (by omega))
theorem giv_small {l : List S61} (hs : Sm l) (hl : l.length ≤ 100) (v x : Int) : Sm (giv l v x).1 ∧ (giv l v x).1.length ≤ 1000 := by
  have h0 : Sm [] := fun t ht => by simp at ht
  unfold giv
  repeat' split
  all_goals first | exact ⟨h0, by simp⟩ | skip
  refine ⟨fun t ht => ?_, by simp; omega⟩
  rcases List.mem_append.1 ht with h | h
  · exact hs t h
  · rw [List.mem_singleton.1 h]; exact ⟨by simp, by simp⟩
theorem solveGiven_ev (l : List S61) (v x : Int) : Ev (fun k => ancepslaw40_SolveGiven.f k l v x) true := by
  unfold ancepslaw40_SolveGiven.f
  refine Ev.bind awake_ev (ev_pos rfl ?_)
  have hno : Ev (fun k => ancepslaw40_SolveGiven.j0 k l v x true) true := Ev.step (fun k => by rw [ancepslaw40_SolveGiven.j0, if_pos rfl]) awake_bind
  obtain ⟨b, hb, hq⟩ := sfew_ev l
  refine Ev.bind hb ?_
  cases b
  · exact hno
  · obtain ⟨h1, h2⟩ := hq rfl
    obtain ⟨g1, g2⟩ := giv_small h1 (by omega) v x
    refine Ev.step (fun k => by rw [ancepslaw40_SolveGiven.j0, if_neg (by simp)]) (Ev.bind (dgiv_ev l h1 (by omega) v x) (Ev.bind (rgiv_ev l h1 (by omega) v x) (ev_pos rfl ?_)))
    exact Ev.bind (same_ev _ g1 g2) (Ev.now _)
theorem SolveGiven (l0 : List (S61)) (a1 : Int) (a2 : Int) (w_l0 : ∀ x, x ∈ l0 → (∀ y, y ∈ x.f0 → (Lit.int .i64 y).wf = true) ∧ (∀ y, y ∈ x.f1 → (Lit.int .i64 y).wf = true)) (w_a1 : (Lit.int .i64 a1).wf = true) (w_a2 : (Lit.int .i64 a2).wf = true) : ∃ k, S.ancepslaw40_SolveGiven.f k l0 a1 a2 = some true := ev_rounds (solveGiven_ev l0 a1 a2)
end Go.Proofs.Ytbagnalcabdlhaa.Pure
