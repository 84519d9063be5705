/- The plain law behind DagTrim: about the printed functions alone, no memory and no Go in it. -/
import Derived.Test.YtanbffoilianhaaPureT
import Derived.Test.YtanbffoilianhaaPureW
import Derived.Test.YtanbffoilianhaaE25
namespace Go.Proofs.Ytanbffoilianhaa.Pure
open Go.RowKit Go.Proofs.YtanbffoilianhaaW.PrintWords Go.Proofs.Ytanbffoilianhaa.E
set_option linter.unusedVariables false
set_option linter.unusedSimpArgs false
theorem trim_small (a : Int) (l : List S69) : ((trim a l).2.1.length : Int) ≤ 6000 ∧ ((trim a l).2.2.1.length : Int) ≤ 2000 := by
  unfold trim
  by_cases h : valid a l = 0
  · have hv := (valid_VG a l).1 h
    have hhi := hv.hi
    have hlo := hv.lo
    have hlen := hv.len
    rw [if_pos h]
    split
    · simp
    · have h1 := ta_length (tr a l).2 l
      have h2 := (tl_length (reach a l) (ways a l) a.toNat 0 [] (List.replicate a.toNat 0)).1
      have h3 : (tr a l).1.length ≤ a.toNat := by simpa [tr] using h2
      exact ⟨by show ((ta (tr a l).2 l).length : Int) ≤ 6000; omega, by show ((tr a l).1.length : Int) ≤ 2000; omega⟩
  · rw [if_neg h]; simp
theorem dagTrim_ev (a : Int) (l : List S69) : Ev (fun k => ancepslaw09_DagTrim.f k a l) true := by
  refine Ev.bind awake_ev (ev_pos rfl ?_)
  have hj1 : Ev (fun k => ancepslaw09_DagTrim.j0 k true a l) true :=
    Ev.step (fun k => by rw [ancepslaw09_DagTrim.j0, if_pos rfl]) awake_bind
  have hj : Ev (fun k => ancepslaw09_DagTrim.j0 k false a l) true := by
    obtain ⟨hs1, hs2⟩ := trim_small a l
    have hsame := same_ev (trim a l).1 (trim a l).2.1 (by omega)
    have heq := equal_ev (trim a l).2.2.1 (by omega)
    refine Ev.step (fun k => by rw [ancepslaw09_DagTrim.j0, if_neg (by simp)]) ?_
    refine Ev.bind (dtrim_ev a l) (Ev.bind (rtrim_ev a l) (ev_pos rfl (Ev.bind hsame (ev_pos rfl (Ev.bind heq (ev_pos rfl ?_))))))
    by_cases he : (trim a l).2.2.2 = 0
    · have hb : ((trim a l).2.2.2 != 0) = false := by simp [he]
      rw [hb]
      obtain ⟨F, hF, hl⟩ := trim_two he
      refine Ev.step (fun k => by rw [ancepslaw09_DagTrim.j1, if_neg (by simp)]) (Ev.bind (dtrim_ev _ _) ?_)
      rw [hF]
      refine ev_pos rfl (Ev.bind hsame (ev_pos rfl ?_))
      have hbb : ((F.length : Int) == (trim a l).1) = true := by simp [hl]
      show Ev (fun _ => some ((F.length : Int) == (trim a l).1)) true
      rw [hbb]
      exact Ev.now _
    · have hb : ((trim a l).2.2.2 != 0) = true := by simp [he]
      rw [hb]
      exact Ev.step (fun k => by rw [ancepslaw09_DagTrim.j1, if_pos rfl]) (ev_pos rfl (Ev.bind hsame (ev_pos rfl (Ev.bind heq (Ev.now _)))))
  obtain ⟨b, hb, -⟩ := few_some a l
  simp only [hb, Option.bind_some]
  cases b <;> assumption
theorem DagTrim (a0_0 : Int) (l0_1 : List (S69)) (w_a0_0 : (Lit.int .i64 a0_0).wf = true) (w_l0_1 : ∀ x, x ∈ l0_1 → (Lit.int .i64 x.f0).wf = true ∧ (Lit.int .i64 x.f1).wf = true ∧ (Lit.int .i64 x.f2).wf = true) : ∃ k, E.ancepslaw09_DagTrim.f k a0_0 l0_1 = some true := ev_rounds (dagTrim_ev a0_0 l0_1)
end Go.Proofs.Ytanbffoilianhaa.Pure
