/- The plain law behind D: about the printed functions alone, no memory and no Go in it. -/
import Derived.Test.YtbagnalcabdlhaaPureS
namespace Go.Proofs.Ytbagnalcabdlhaa.Pure
open Go.RowKit Go.Proofs.YtbagnalcabdlhaaW.PrintWords Go.Proofs.Ytbagnalcabdlhaa.S
set_option linter.unusedVariables false
set_option linter.unusedSimpArgs false
/-! ### First, All, Count, Vars: the code's side -/
theorem SS_len {l : List S61} (h : VS l) : (SS l).length ≤ 16777216 := by
  unfold SS sl
  rw [List.length_map]
  refine Nat.le_trans (List.length_filter_le _ _) ?_
  rw [List.length_map, List.length_range]
  exact Nat.le_trans (Nat.pow_le_pow_right (by decide) h.occ_len) (by decide)
def fst1 (l : List S61) : Int × Int := if sysv l = 0 then solve_First.of (SS l) else (0, sysv l)
def all1 (l : List S61) : List Int × Int := if sysv l = 0 then solve_All.of (SS l) else ([], sysv l)
theorem dfirst_ev (l : List S61) (hs : Sm l) (hl : l.length ≤ 1000) : Ev (fun k => solve_First.f k l) (fst1 l) :=
  Ev.bind (svalid_ev l hs hl) (ev_ite (fun h => Ev.bind (occ_ev l hs hl) (Ev.bind (allsearch_ev ((sysv_VS l).1 h)) (Ev.now _))) (fun _ => Ev.now _))
theorem dall_ev (l : List S61) (hs : Sm l) (hl : l.length ≤ 1000) : Ev (fun k => solve_All.f k l) (all1 l) :=
  Ev.bind (svalid_ev l hs hl) (ev_ite (fun h => Ev.bind (occ_ev l hs hl) (Ev.bind (allsearch_ev ((sysv_VS l).1 h)) (Ev.now _))) (fun _ => Ev.now _))
theorem sequal_loop (l : List Int) (hl : (l.length : Int) ≤ 9223372036854775807) : ∀ (d i : Nat), i + d = l.length → Ev (fun k => slices_Equal_int_int.l0 k l l l.length i) true
  | 0, i, h => Ev.step (f := fun _ => some true) (fun k => by rw [slices_Equal_int_int.l0, if_neg (by omega)]) (Ev.now _)
  | d + 1, i, h => by
    have hw := wrap_succ i l.length (by omega) hl
    exact Ev.step (fun k => by rw [slices_Equal_int_int.l0, if_pos (by omega), if_pos (by omega), if_pos (by omega), if_pos (by omega), if_pos rfl, hw]) (sequal_loop l hl d (i + 1) (by omega))
theorem sequal_ev (l : List Int) (hl : (l.length : Int) ≤ 9223372036854775807) : Ev (fun k => slices_Equal_int_int.f k l l) true := ev_pos rfl (sequal_loop l hl l.length 0 (by omega))
end Go.Proofs.Ytbagnalcabdlhaa.Pure
