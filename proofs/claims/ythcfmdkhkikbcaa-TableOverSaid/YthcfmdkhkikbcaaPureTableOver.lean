/- The plain law behind TableOver: about the printed functions alone, no memory and no Go in it. -/
import Derived.Test.YthcfmdkhkikbcaaPureP
import Derived.Test.YthcfmdkhkikbcaaT29
namespace Go.Proofs.Ythcfmdkhkikbcaa.Pure
open Go.RowKit Go.Proofs.YthcfmdkhkikbcaaW.PrintWords Go.Proofs.Ythcfmdkhkikbcaa.T
set_option linter.unusedVariables false
set_option linter.unusedSimpArgs false
/-! ### TableOver -/
theorem tableOver_ev (vs rs us : List Int) : Ev (fun k => ancepslaw38_TableOver.f k vs rs us) true := by
  unfold ancepslaw38_TableOver.f
  refine Ev.bind awake_ev (ev_pos rfl ?_)
  have hno : Ev (fun k => ancepslaw38_TableOver.j0 k us true vs rs) true := Ev.step (fun k => by rw [ancepslaw38_TableOver.j0, if_pos rfl]) awake_bind
  obtain ⟨b, hb, hs⟩ := few_some vs rs
  simp only [hb, Option.bind_some]
  cases b
  · exact hno
  · obtain ⟨h1, h2⟩ := hs rfl
    refine ev_pos rfl ?_
    by_cases h3 : (us.length : Int) > 30
    · rw [decide_eq_true h3]; exact hno
    · rw [decide_eq_false h3]
      obtain ⟨s1, s2⟩ := prjs_small vs rs us
      obtain ⟨s3, s4⟩ := ext_small vs rs us
      have own : Ev (fun _ => ancepslaw38_own.f vs rs) (vs, rs) := by rw [own_eq vs rs (by omega) (by omega)]; exact Ev.now _
      have cl : Ev (fun _ => slices_Clone_int_int.f us) us := by rw [clone_eq us (by omega)]; exact Ev.now _
      refine Ev.step (fun k => by rw [ancepslaw38_TableOver.j0, if_neg (by simp)]) (Ev.bind own (Ev.bind cl ?_))
      refine Ev.bind (dprj_ev vs rs us (by omega) (by omega) (by omega)) (Ev.bind (rprj_ev vs rs us (by omega) (by omega) (by omega)) (Ev.bind own (Ev.bind cl ?_)))
      refine Ev.bind (dext_ev vs rs us (by omega) (by omega) (by omega)) (Ev.bind (rext_ev vs rs us (by omega) (by omega) (by omega)) ?_)
      exact ev_pos rfl (Ev.bind (equal_ev _ _ (by omega) (by omega)) (ev_pos rfl (ev_pos rfl (Ev.bind (equal_ev _ _ (by omega) (by omega)) (Ev.now _)))))
theorem TableOver (l0_0 : List Int) (l0_1 : List Int) (l1 : List Int) (w_l0_0 : ∀ x, x ∈ l0_0 → (Lit.int .i64 x).wf = true) (w_l0_1 : ∀ x, x ∈ l0_1 → (Lit.int .i64 x).wf = true) (w_l1 : ∀ x, x ∈ l1 → (Lit.int .i64 x).wf = true) : ∃ k, T.ancepslaw38_TableOver.f k l0_0 l0_1 l1 = some true := ev_rounds (tableOver_ev l0_0 l0_1 l1)
end Go.Proofs.Ythcfmdkhkikbcaa.Pure
