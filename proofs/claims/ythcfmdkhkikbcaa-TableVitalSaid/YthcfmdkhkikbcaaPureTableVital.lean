/- The plain law behind TableVital: about the printed functions alone, no memory and no Go in it. -/
import Derived.Test.YthcfmdkhkikbcaaPureK
import Derived.Test.YthcfmdkhkikbcaaT33
namespace Go.Proofs.Ythcfmdkhkikbcaa.Pure
open Go.RowKit Go.Proofs.YthcfmdkhkikbcaaW.PrintWords Go.Proofs.Ythcfmdkhkikbcaa.T
set_option linter.unusedVariables false
set_option linter.unusedSimpArgs false
/-! ### TableVital -/
theorem tv_picks {vs rs : List Int} (h : VT vs rs) (h6 : vs.length ≤ 6) (x : Int) : ∀ (d i : Nat) (acc : List Int), i + d = 24 → acc.length ≤ 4 → Chn 24 none acc → (∀ y, y ∈ acc → y < i) →
    Ev (fun k => ancepslaw38_TableVital.l2 k x acc i vs rs (vit vs rs).1 (vit vs rs).2) true
  | 0, i, acc, hd, ha, hch, hlt => by
    have hl := h.len
    have hr := h.rows_len
    have h1 := dext_ev vs rs acc (by omega) (by omega) (by omega)
    have hlen := all2_len vs acc
    have hall := all2_chn h.vars hch
    have e1 : ext vs rs acc = (all2 vs acc, ovr (all2 vs acc) (hs vs rs), 0) := by
      unfold ext
      rw [if_pos ((valid_VT vs rs).2 h), if_pos ((asc_iff acc).2 ⟨by omega, hch⟩), if_neg (by omega)]
    have hE : VT (all2 vs acc) (ovr (all2 vs acc) (hs vs rs)) := ⟨by omega, hall.1, ovr_chn _ _⟩
    have hEr := hE.rows_len
    have h2 := dvital_ev (vs := all2 vs acc) (rs := ovr (all2 vs acc) (hs vs rs)) (by omega) (by omega)
    have e2 : vit (all2 vs acc) (ovr (all2 vs acc) (hs vs rs)) = vit vs rs := vit_one hE h (ext_hs (fun w hw => (hall.2 w).2 (.inl hw)) hall.1)
    rw [if_pos ((valid_VT _ _).2 hE), e2] at h2
    rw [e1] at h1
    have hV := vit_VT h
    have hV1 := hV.len
    have hV2 := hV.rows_len
    have h3 := equal_ev (vit vs rs).1 (vit vs rs).2 (by omega) (by omega)
    exact Ev.step (fun k => by rw [ancepslaw38_TableVital.l2, if_neg (by omega)]) (Ev.bind h1 (Ev.bind h2 (ev_pos rfl (ev_pos rfl (Ev.bind h3 (Ev.now _))))))
  | d + 1, i, acc, hd, ha, hch, hlt => by
    have hw : wrap64 ((i : Int) + 1) = ((i + 1 : Nat) : Int) := by rw [w64_in _ (by omega)]; omega
    have ih := tv_picks h h6 x d (i + 1) acc (by omega) ha hch (fun y hy => by have := hlt y hy; omega)
    by_cases e : Go.bits .and .u32 (shr .u32 x i) 1 = 1
    · by_cases h4 : (acc.length : Int) < 4
      · have ih1 := tv_picks h h6 x d (i + 1) (acc ++ [(i : Int)]) (by omega) (by simp; omega) (chn_snoc (by omega) (by omega) hch hlt (fun q hq => by cases hq)) (fun y hy => by
          rcases List.mem_append.1 hy with hy | hy
          · have := hlt y hy; omega
          · rw [List.mem_singleton.1 hy]; omega)
        exact Ev.step (fun k => by rw [ancepslaw38_TableVital.l2, if_pos (by omega), if_pos (by omega), if_pos e, if_pos h4, if_pos (by omega), hw]) ih1
      · exact Ev.step (fun k => by rw [ancepslaw38_TableVital.l2, if_pos (by omega), if_pos (by omega), if_pos e, if_neg h4, hw]) ih
    · exact Ev.step (fun k => by rw [ancepslaw38_TableVital.l2, if_pos (by omega), if_pos (by omega), if_neg e, hw]) ih
theorem tv_rows {vs rs : List Int} (h : VT vs rs) (h6 : vs.length ≤ 6) (x : Int) : ∀ (d r : Nat), r + d = 2 ^ vs.length →
    Ev (fun k => ancepslaw38_TableVital.l1 k x ((2 ^ vs.length : Nat) : Int) r vs rs (vit vs rs).1 (vit vs rs).2) true
  | 0, r, hd => Ev.step (fun k => by rw [ancepslaw38_TableVital.l1, if_neg (by omega)]; rfl) (tv_picks h h6 x 24 0 [] (by omega) (by simp) trivial (fun y hy => by simp at hy))
  | d + 1, r, hd => by
    have hl := h.len
    have hp := pow10 hl
    have hw : wrap64 ((r : Int) + 1) = ((r + 1 : Nat) : Int) := by rw [w64_in _ (by omega)]; omega
    have h1 := rholds_ev (vit_VT h) (asg vs r)
    rw [vit_hs h] at h1
    have hne : ¬ (hs vs rs (asg vs r) != hs vs rs (asg vs r)) = true := by simp
    exact Ev.step (fun k => by rw [ancepslaw38_TableVital.l1, if_pos (by omega), hw]) (Ev.bind (rasg_ev h.vars (by omega) r) (Ev.bind h1 (Ev.bind (rholds_ev h _) (ev_neg hne (tv_rows h h6 x d (r + 1) (by omega))))))
theorem tv_vars {vs rs : List Int} (h : VT vs rs) (h6 : vs.length ≤ 6) (x : Int) : ∀ (d i : Nat), i + d = (vit vs rs).1.length →
    Ev (fun k => ancepslaw38_TableVital.l0 k x (vit vs rs).1 ((vit vs rs).1.length : Int) i vs rs (vit vs rs).1 (vit vs rs).2) true
  | 0, i, hd => by
    have hs1 := shl1 vs.length (by omega)
    exact Ev.step (fun k => by rw [ancepslaw38_TableVital.l0, if_neg (by omega), hs1]; rfl) (tv_rows h h6 x (2 ^ vs.length) 0 (by omega))
  | d + 1, i, hd => by
    have hV := vit_VT h
    have hl := hV.len
    have hi : i < (vit vs rs).1.length := by omega
    have hw := wrap_succ i (vit vs rs).1.length hi (by omega)
    have hm := rd_mem (vit vs rs).1 i hi
    have hv := hV.vars' _ hm
    have hm2 := List.mem_filter.1 hm
    have h1 := matters_ev hV hv.1 hv.2
    rw [vit_mat h, hm2.2] at h1
    have h2 := contains_ev vs (by omega) (rd (vit vs rs).1 i)
    rw [decide_eq_true hm2.1] at h2
    exact Ev.step (fun k => by rw [ancepslaw38_TableVital.l0, if_pos (by omega), if_pos (by omega), if_pos (by omega), hw]) (Ev.bind h1 (ev_pos rfl (Ev.bind h2 (ev_pos rfl (tv_vars h h6 x d (i + 1) (by omega))))))
theorem tableVital_ev (p q x : Int) : Ev (fun k => ancepslaw38_TableVital.f k p q x) true := by
  obtain ⟨vs, rs, hm, h, h6⟩ := made_ev p q
  have hl := h.len
  have hr := h.rows_len
  have hV := vit_VT h
  have hV1 := hV.len
  have hV2 := hV.rows_len
  have h1 := dvital_ev (vs := vs) (rs := rs) (by omega) (by omega)
  rw [if_pos ((valid_VT vs rs).2 h)] at h1
  have h2 := rvalid_ev (vit vs rs).1 (vit vs rs).2 (by omega) (by omega)
  rw [(valid_VT _ _).2 hV] at h2
  refine Ev.bind awake_ev (ev_pos rfl (Ev.bind hm (Ev.bind h1 (ev_pos rfl (Ev.bind h2 ?_)))))
  exact Ev.step (fun k => by rw [show ((0 : Int) != 0) = false from rfl, ancepslaw38_TableVital.j0, if_neg (by simp)]; rfl) (tv_vars h h6 x (vit vs rs).1.length 0 (by omega))
theorem TableVital (a0_0 : Int) (a0_1 : Int) (a1 : Int) (w_a0_0 : (Lit.int .u32 a0_0).wf = true) (w_a0_1 : (Lit.int .u64 a0_1).wf = true) (w_a1 : (Lit.int .u32 a1).wf = true) : ∃ k, T.ancepslaw38_TableVital.f k a0_0 a0_1 a1 = some true := ev_rounds (tableVital_ev a0_0 a0_1 a1)
end Go.Proofs.Ythcfmdkhkikbcaa.Pure
