/- The plain law behind RS: about the printed functions alone, no memory and no Go in it. -/
import Derived.Test.YtbagnalcabdlhaaPureD
import Derived.Test.YtbagnalcabdlhaaS15
namespace Go.Proofs.Ytbagnalcabdlhaa.Pure
open Go.RowKit Go.Proofs.YtbagnalcabdlhaaW.PrintWords Go.Proofs.Ytbagnalcabdlhaa.S
set_option linter.unusedVariables false
set_option linter.unusedSimpArgs false
/-! ### The reference's solutions -/
theorem rsat_loop {l : List S61} (h : VS l) (most : Int) (vars out : List Int) (i a : Nat) (hi : i < 16777216) (ho : out.length < 17592186044416) (r : List Int) : ∀ (d j : Nat), j + d = l.length →
    (sat (l.drop j) a = true → Ev (fun k => ancepsref40_solutions.l0 k l most vars (out ++ [(a : Int)]) ((i + 1 : Nat) : Int)) r) → (sat (l.drop j) a = false → Ev (fun k => ancepsref40_solutions.l0 k l most vars out ((i + 1 : Nat) : Int)) r) →
    Ev (fun k => ancepsref40_solutions.l1 k l most vars out i (a : Int) true j) r
  | 0, j, hd, h1, h2 => by
    rw [List.drop_eq_nil_of_le (by omega)] at h1
    have hw : wrap64 ((i : Int) + 1) = ((i + 1 : Nat) : Int) := by rw [w64_in _ (by omega)]; omega
    exact Ev.step (fun k => by rw [ancepsref40_solutions.l1, if_neg (by omega), if_pos rfl, if_pos ho, hw]) (h1 rfl)
  | d + 1, j, hd, h1, h2 => by
    have hj : j < l.length := by omega
    have hl := h.len
    have hw : wrap64 ((i : Int) + 1) = ((i + 1 : Nat) : Int) := by rw [w64_in _ (by omega)]; omega
    have hwj := wrap_succ j l.length hj (by omega)
    have hm := h.tab _ (rdT_mem l j hj)
    have e : sat (l.drop j) a = (hs (rd_T61 l j).f0 (rd_T61 l j).f1 a && sat (l.drop (j + 1)) a) := by
      unfold sat
      rw [rdT_at l j hj, List.all_cons]
    rw [e] at h1 h2
    refine Ev.step (fun k => by rw [ancepsref40_solutions.l1, if_pos (by omega), if_pos rfl, if_pos (by omega), hwj]) (Ev.bind (holds_ev hm a) ?_)
    cases c : hs (rd_T61 l j).f0 (rd_T61 l j).f1 a
    · rw [c] at h2
      have h2 := h2 rfl
      by_cases hj2 : ((j + 1 : Nat) : Int) < (l.length : Int)
      · exact Ev.step (fun k => by rw [ancepsref40_solutions.l1, if_pos hj2, if_neg Bool.false_ne_true, hw]) h2
      · exact Ev.step (fun k => by rw [ancepsref40_solutions.l1, if_neg hj2, if_neg Bool.false_ne_true, hw]) h2
    · rw [c, Bool.true_and] at h1 h2
      exact rsat_loop h most vars out i a hi ho r d (j + 1) (by omega) h1 h2
theorem rsol_loop {l : List S61} (h : VS l) {vars : List Int} (hc : Chn 24 none vars) (hv : vars.length ≤ 24) (most : Nat) (hm : most ≤ 40000000) : ∀ (d i : Nat) (out : List Int), i + d = 2 ^ vars.length → out.length ≤ i → out.length ≤ most →
    Ev (fun k => ancepsref40_solutions.l0 k l (most : Int) vars out i) ((out ++ (((List.range' i d).map fun i => asg vars i).filter (sat l)).map fun a : Nat => (a : Int)).take most)
  | 0, i, out, hd, ho, hom => by
    have hs1 := shl1 vars.length (by omega)
    have hp : 2 ^ vars.length ≤ 16777216 := Nat.le_trans (Nat.pow_le_pow_right (by decide) hv) (by decide)
    rw [show List.range' i 0 = [] from rfl, List.map_nil, List.filter_nil, List.map_nil, List.append_nil, List.take_of_length_le hom]
    refine Ev.step (fun k => by rw [ancepsref40_solutions.l0, hs1, if_neg (by omega)]) ?_
    exact Ev.step (f := fun _ => some out) (fun k => by rw [ancepsref40_solutions.j1, if_neg Bool.false_ne_true]) (Ev.now _)
  | d + 1, i, out, hd, ho, hom => by
    have hs1 := shl1 vars.length (by omega)
    have hp : 2 ^ vars.length ≤ 16777216 := Nat.le_trans (Nat.pow_le_pow_right (by decide) hv) (by decide)
    refine Ev.step (fun k => by rw [ancepsref40_solutions.l0, hs1, if_pos (by omega)]) ?_
    by_cases hlt : (out.length : Int) < (most : Int)
    · rw [decide_eq_true hlt]
      refine Ev.step (fun k => by rw [ancepsref40_solutions.j1, if_pos rfl]) (Ev.bind (rasg_ev hc hv i) ?_)
      rw [List.range'_succ, List.map_cons, List.filter_cons]
      refine rsat_loop h _ vars out i (asg vars i) (by omega) (by omega) _ l.length 0 (by omega) (fun e => ?_) (fun e => ?_)
      · rw [List.drop_zero] at e
        have ih := rsol_loop h hc hv most hm d (i + 1) (out ++ [((asg vars i : Nat) : Int)]) (by omega) (by simp; omega) (by simp; omega)
        rw [if_pos e, List.map_cons]
        rw [List.append_assoc, List.singleton_append] at ih
        exact ih
      · rw [List.drop_zero] at e
        have ih := rsol_loop h hc hv most hm d (i + 1) out (by omega) (by omega) hom
        rw [if_neg (by rw [e]; simp)]
        exact ih
    · rw [decide_eq_false hlt]
      refine ev_eq (Ev.step (f := fun _ => some out) (fun k => by rw [ancepsref40_solutions.j1, if_neg Bool.false_ne_true]) (Ev.now _)) ?_
      rw [List.take_append_of_le_length (by omega), List.take_of_length_le (by omega)]
theorem rsol_ev {l : List S61} (h : VS l) (hs : Sm l) (most : Nat) (hm : most ≤ 40000000) : Ev (fun k => ancepsref40_solutions.f k l (most : Int)) ((SS l).take most) := by
  refine Ev.bind (rvars_ev h hs) ?_
  have := rsol_loop h h.occ.1 h.occ_len most hm (2 ^ (occ l).length) 0 [] (by omega) (by simp) (by simp)
  rw [List.nil_append, ← List.range_eq_range'] at this
  refine ev_eq this ?_
  unfold SS sl
  simp only [Nat.or_zero]
end Go.Proofs.Ytbagnalcabdlhaa.Pure
