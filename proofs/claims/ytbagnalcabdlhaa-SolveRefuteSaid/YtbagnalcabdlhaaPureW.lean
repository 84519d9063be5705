/- The plain law behind W: about the printed functions alone, no memory and no Go in it. -/
import Derived.Test.YtbagnalcabdlhaaPureA2
import Derived.Test.YtbagnalcabdlhaaS4
import Derived.Test.YtbagnalcabdlhaaS5
import Derived.Test.YtbagnalcabdlhaaS6
import Derived.Test.YtbagnalcabdlhaaS7
namespace Go.Proofs.Ytbagnalcabdlhaa.Pure
open Go.RowKit Go.Proofs.YtbagnalcabdlhaaW.PrintWords Go.Proofs.Ytbagnalcabdlhaa.S
set_option linter.unusedVariables false
set_option linter.unusedSimpArgs false
/-! ### awake -/
def L3 : List S61 := [⟨[0, 1], [1, 2]⟩, ⟨[1, 2], [0, 3]⟩, ⟨[0, 2], [0, 3]⟩]
def L2 : List S61 := [⟨[0, 1], [1, 2]⟩, ⟨[1, 2], [0, 3]⟩]
theorem L3_vs : VS L3 := (sysv_VS _).1 (by decide)
theorem L2_vs : VS L2 := (sysv_VS _).1 (by decide)
theorem L3_sm : Sm L3 := by
  intro t ht
  simp only [L3, List.mem_cons, List.not_mem_nil, or_false] at ht
  rcases ht with rfl | rfl | rfl <;> exact ⟨by decide, by decide⟩
theorem L2_sm : Sm L2 := by
  intro t ht
  simp only [L2, List.mem_cons, List.not_mem_nil, or_false] at ht
  rcases ht with rfl | rfl <;> exact ⟨by decide, by decide⟩
theorem occ_of {l : List S61} (h : VS l) {vs : List Int} (hc : Chn 24 none vs) (hm : ∀ v, v ∈ vs ↔ v ∈ flat l) : occ l = vs := Chn.same h.occ.1 hc (fun n => by rw [h.occ.2, hm])
theorem v012 : Chn 24 none [0, 1, 2] := by simp [Chn]
theorem L3_occ : occ L3 = [0, 1, 2] := occ_of L3_vs v012 (fun v => by simp [flat, L3] <;> omega)
theorem L2_occ : occ L2 = [0, 1, 2] := occ_of L2_vs v012 (fun v => by simp [flat, L2] <;> omega)
def R3 : List S35 := ((solve_split.f 60 L3 [0, 1, 2] 0 0 []).getD ([], false)).1
theorem awake_ev : Ev (fun k => ancepslaw40_awake.f k) true := by
  have v3 : Ev (fun k => solve_valid.f k L3) 0 := ev_eq (svalid_ev L3 L3_sm (by decide)) ((sysv_VS _).2 L3_vs)
  have v2 : Ev (fun k => solve_valid.f k L2) 0 := ev_eq (svalid_ev L2 L2_sm (by decide)) ((sysv_VS _).2 L2_vs)
  have o3 : Ev (fun k => solve_occurring.f k L3) [0, 1, 2] := ev_eq (occ_ev L3 L3_sm (by decide)) L3_occ
  have o2 : Ev (fun k => solve_occurring.f k L2) [0, 1, 2] := ev_eq (occ_ev L2 L2_sm (by decide)) L2_occ
  have s3 : Ev (fun k => solve_search.f k L3 [0, 1, 2] 0 0) [] := Ev.of (fun k => solve_search.mono _ _ _ _ k) (k := 60) (by kernel_rfl)
  have s2 : Ev (fun k => solve_search.f k L2 [0, 1, 2] 0 0) [1, 6] := Ev.of (fun k => solve_search.mono _ _ _ _ k) (k := 60) (by kernel_rfl)
  have p3 : Ev (fun k => solve_split.f k L3 [0, 1, 2] 0 0 []) (R3, true) := Ev.of (fun k => solve_split.mono _ _ _ _ _ k) (k := 60) (by kernel_rfl)
  have h3 : Ev (fun k => solve_shape.f k L3 R3) true := Ev.of (fun k => solve_shape.mono _ _ k) (k := 200) (by kernel_rfl)
  have r3 : Ev (fun k => solve_right.f k L3 R3 0 0 0) true := Ev.of (fun k => solve_right.mono _ _ _ _ _ k) (k := 200) (by kernel_rfl)
  have hR : Ev (fun k => solve_Refute.f k L3) (R3, 0) := by
    refine Ev.bind v3 (ev_pos rfl (Ev.bind o3 (Ev.bind s3 (ev_pos rfl (Ev.bind p3 ?_)))))
    exact Ev.now _
  have hF : Ev (fun k => solve_First.f k L3) (0, 10) := Ev.bind v3 (ev_pos rfl (Ev.bind o3 (Ev.bind s3 (Ev.now _))))
  have hA : Ev (fun k => solve_All.f k L2) ([1, 6], 0) := Ev.bind v2 (ev_pos rfl (Ev.bind o2 (Ev.bind s2 (Ev.now _))))
  have hC : Ev (fun k => solve_Check.f k L3 R3) true := Ev.bind v3 (ev_pos rfl (Ev.bind h3 (ev_pos rfl (Ev.bind r3 (Ev.now _)))))
  have hE : Ev (fun k => slices_Equal_int_int.f k [1, 6] [1, 6]) true := Ev.of (fun k => slices_Equal_int_int.mono _ _ k) (k := 60) (by kernel_rfl)
  unfold ancepslaw40_awake.f
  refine Ev.bind (Ev.now L3) (Ev.bind hR (Ev.bind hF (ev_pos (by decide) ?_)))
  exact Ev.bind (show Ev (fun k => solve_All.f k (L3.take 2)) ([1, 6], 0) from hA) (ev_pos rfl (ev_pos (by kernel_rfl) (Ev.bind hC (ev_pos rfl (ev_pos rfl (ev_pos rfl (Ev.bind hE (Ev.now _))))))))
theorem awake_bind : Ev (fun k => (ancepslaw40_awake.f k).bind fun t => some t) true := Ev.bind awake_ev (Ev.now _)
end Go.Proofs.Ytbagnalcabdlhaa.Pure
