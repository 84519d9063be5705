/- The plain law behind TableValid: about the printed functions alone, no memory and no Go in it. -/
import Derived.Test.YthcfmdkhkikbcaaPureH
import Derived.Test.YthcfmdkhkikbcaaT12
namespace Go.Proofs.Ythcfmdkhkikbcaa.Pure
open Go.RowKit Go.Proofs.YthcfmdkhkikbcaaW.PrintWords Go.Proofs.Ythcfmdkhkikbcaa.T
set_option linter.unusedVariables false
set_option linter.unusedSimpArgs false
/-! ### TableValid -/
theorem tableValid_ev (vs rs : List Int) (a : Int) : Ev (fun k => ancepslaw38_TableValid.f k vs rs a) true := by
  unfold ancepslaw38_TableValid.f
  refine Ev.bind awake_ev (ev_pos rfl ?_)
  have hno : Ev (fun k => ancepslaw38_TableValid.j0 k a true vs rs) true := Ev.step (fun k => by rw [ancepslaw38_TableValid.j0, if_pos rfl]) awake_bind
  obtain ⟨b, hb, hs⟩ := few_some vs rs
  simp only [hb, Option.bind_some]
  cases b
  · exact hno
  · obtain ⟨h1, h2⟩ := hs rfl
    obtain ⟨s1, s2⟩ := vits_small vs rs
    have own : Ev (fun _ => ancepslaw38_own.f vs rs) (vs, rs) := by rw [own_eq vs rs (by omega) (by omega)]; exact Ev.now _
    refine Ev.step (fun k => by rw [ancepslaw38_TableValid.j0, if_neg (by simp)]) (Ev.bind own ?_)
    refine Ev.bind (dhas_ev vs rs (by omega) (by omega) a) (Ev.bind (rhas_ev vs rs (by omega) (by omega) a) (Ev.bind own ?_))
    refine Ev.bind (show Ev (fun k => table_Vital.f k vs rs) (vits vs rs) from dvital_ev (by omega) (by omega)) (Ev.bind (rvital_ev vs rs (by omega) (by omega)) (Ev.bind own ?_))
    refine Ev.bind (valid_ev vs rs (by omega) (by omega)) (Ev.bind (rvalid_ev vs rs (by omega) (by omega)) ?_)
    exact ev_pos rfl (ev_pos (by simp) (ev_pos rfl (ev_pos rfl (Ev.bind (equal_ev _ _ (by omega) (by omega)) (Ev.now _)))))
theorem TableValid (l0_0 : List Int) (l0_1 : List Int) (a1 : Int) (w_l0_0 : ∀ x, x ∈ l0_0 → (Lit.int .i64 x).wf = true) (w_l0_1 : ∀ x, x ∈ l0_1 → (Lit.int .i64 x).wf = true) (w_a1 : (Lit.int .i64 a1).wf = true) : ∃ k, T.ancepslaw38_TableValid.f k l0_0 l0_1 a1 = some true := ev_rounds (tableValid_ev l0_0 l0_1 a1)
end Go.Proofs.Ythcfmdkhkikbcaa.Pure
