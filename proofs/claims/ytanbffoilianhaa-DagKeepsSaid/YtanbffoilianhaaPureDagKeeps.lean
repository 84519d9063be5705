/- The plain law behind DagKeeps: about the printed functions alone, no memory and no Go in it. -/
import Derived.Test.YtanbffoilianhaaPureQ3
import Derived.Test.YtanbffoilianhaaF9
namespace Go.Proofs.Ytanbffoilianhaa.Pure
open Go.RowKit Go.Proofs.YtanbffoilianhaaW.PrintWords Go.Proofs.Ytanbffoilianhaa.F
set_option linter.unusedVariables false
set_option linter.unusedSimpArgs false
/-! ### DagKeeps -/
def srt (l : List Int) : List Int := l.mergeSort fun x y => decide (x ≤ y)
theorem costs_loop {a : Int} {l : List S69} (ps : List (List Int)) (hl : ps.length ≤ 2000) (hp : ∀ p, p ∈ ps → p.length ≤ 10000 ∧ ∀ q, q ∈ p → 0 ≤ q ∧ q < (l.length : Int)) : ∀ (d i : Nat) (acc : List Int), i + d = ps.length → acc.length ≤ i →
    Ev (fun k => ancepslaw09_costs.l0 k acc ps ps.length i a l) (srt (acc ++ (ps.drop i).map (sm l 0)))
  | 0, i, acc, h, ha => by
    rw [List.drop_eq_nil_of_le (by omega), List.map_nil, List.append_nil]
    have hs : slices_Sort_int_int.f acc = some (srt acc) := by
      unfold slices_Sort_int_int.f
      rw [if_pos (by omega)]
      rfl
    exact Ev.step (f := fun _ => some (srt acc)) (fun k => by rw [ancepslaw09_costs.l0, if_neg (by omega), hs]; rfl) (Ev.now _)
  | d + 1, i, acc, h, ha => by
    have hi : i < ps.length := by omega
    have hw := wrap_succ i ps.length hi (by omega)
    have e1 : ps.drop i = rd_L2 ps i :: ps.drop (i + 1) := getD_drop ps i [] hi
    have hm : rd_L2 ps i ∈ ps := by
      have h2 : rd_L2 ps i ∈ ps.drop i := by rw [e1]; exact List.mem_cons_self
      exact List.mem_of_mem_drop h2
    obtain ⟨p1, p2⟩ := hp _ hm
    have hsum := sum_loop a l (rd_L2 ps i) (by omega) p2 (rd_L2 ps i).length 0 0 (by omega)
    rw [List.drop_zero] at hsum
    have hsum2 : Ev (fun k => ancepsref09_Sum.f k a l (rd_L2 ps i)) (sm l 0 (rd_L2 ps i)) := hsum
    have ih := costs_loop (a := a) ps hl hp d (i + 1) (acc ++ [sm l 0 (rd_L2 ps i)]) (by omega) (by simp; omega)
    rw [List.append_assoc, List.singleton_append] at ih
    rw [e1, List.map_cons]
    have hal : acc.length < 17592186044416 := by omega
    exact Ev.step (fun k => by rw [ancepslaw09_costs.l0, if_pos (by omega), if_pos (by omega), if_pos (by omega), hw]) (Ev.bind hsum2 (ev_pos hal ih))
theorem costs_ev {a : Int} {l : List S69} (hv : VG a l) (hw : ¬ rd (ways a l) 0 > 2000) : Ev (fun k => ancepslaw09_costs.f k a l) (srt (cs a l)) := by
  have hp := rpaths_ev a l
  have e : paths a l = (fr l a a.toNat 0, 0) := by unfold paths; rw [if_pos ((valid_VG a l).2 hv), if_neg hw]
  rw [e] at hp
  have hc := fr_count hv hw
  have hhi := hv.hi
  have := costs_loop (a := a) (l := l) (fr l a a.toNat 0) (by omega) (fun p hpm => ⟨by have := fr_short l a a.toNat 0 p hpm; omega, wk_in l p _ _ (fr_wk hv hpm)⟩) (fr l a a.toNat 0).length 0 [] (by omega) (by simp)
  rw [List.drop_zero, List.nil_append] at this
  exact Ev.bind hp this
theorem srt_len (l : List Int) : (srt l).length = l.length := List.length_mergeSort ..
theorem made_loop (cs : List Int) (hcs : ∀ c, c ∈ cs → 0 ≤ c ∧ c < 65536) (hl : (cs.length : Int) ≤ 1000) (a : Int) (h1 : 1 ≤ a) (h2 : a ≤ 12) : ∀ (d i : Nat) (acc : List S69), i + d = cs.length → acc.length ≤ i → ∃ l, Ev (fun k => ancepsref09_Made.l0 k cs i a acc) (a, l)
  | 0, i, acc, h, ha => ⟨acc, Ev.step (f := fun _ => some (a, acc)) (fun k => by rw [ancepsref09_Made.l0, if_neg (by omega)]) (Ev.now _)⟩
  | d + 1, i, acc, h, ha => by
    have hi : i < cs.length := by omega
    have hw := wrap_succ i cs.length hi (by omega)
    have hc := hcs _ (rd_mem cs i hi)
    by_cases h40 : (i : Int) < 40
    · by_cases ha1 : a > 1
      · have e1 : wrap64 (a - 1) = a - 1 := w64_in _ (by omega)
        have e2 : wrap64 (rd cs i) = rd cs i := w64_in _ (by omega)
        have m1 : 0 ≤ Int.tmod (rd cs i) (a - 1) ∧ Int.tmod (rd cs i) (a - 1) < a - 1 := ⟨Int.tmod_nonneg _ hc.1, Int.tmod_lt_of_pos _ (by omega)⟩
        have e3 : wrap64 (a - 1 - Int.tmod (rd cs i) (a - 1)) = a - 1 - Int.tmod (rd cs i) (a - 1) := w64_in _ (by omega)
        obtain ⟨l, hl2⟩ := made_loop cs hcs hl a h1 h2 d (i + 1) (acc ++ [_]) (by omega) (by simp; omega)
        exact ⟨l, Ev.step (fun k => by rw [ancepsref09_Made.l0, if_pos (by omega), if_pos h40, if_pos ha1, if_pos (by omega), e1, if_neg (by omega), e2, e3, if_neg (by omega), if_pos (by omega), hw]) hl2⟩
      · exact ⟨acc, Ev.step (f := fun _ => some (a, acc)) (fun k => by rw [ancepsref09_Made.l0, if_pos (by omega), if_pos h40, if_neg ha1]) (Ev.now _)⟩
    · exact ⟨acc, Ev.step (f := fun _ => some (a, acc)) (fun k => by rw [ancepsref09_Made.l0, if_pos (by omega), if_neg h40]) (Ev.now _)⟩
theorem dagKeeps_ev (x : Int) (hx : 0 ≤ x ∧ x < 256) (c : List Int) (hc : ∀ y, y ∈ c → 0 ≤ y ∧ y < 65536) : Ev (fun k => ancepslaw09_DagKeeps.f k x c) true := by
  unfold ancepslaw09_DagKeeps.f
  refine Ev.bind awake_ev (ev_pos rfl ?_)
  by_cases h40 : (c.length : Int) > 40
  · rw [decide_eq_true h40]
    exact Ev.step (fun k => by rw [ancepslaw09_DagKeeps.j0, if_pos rfl]) awake_bind
  · rw [decide_eq_false h40]
    have ea : wrap64 (1 + Int.tmod (wrap64 x) 12) = 1 + Int.tmod x 12 := by
      rw [w64_in x (by omega)]
      have h1 := Int.tmod_nonneg 12 hx.1
      have h2 := Int.tmod_lt_of_pos x (show (0 : Int) < 12 by decide)
      exact w64_in _ (by omega)
    have b1 := Int.tmod_nonneg 12 hx.1
    have b2 := Int.tmod_lt_of_pos x (show (0 : Int) < 12 by decide)
    obtain ⟨l, hm⟩ := made_loop c hc (by omega) (1 + Int.tmod x 12) (by omega) (by omega) c.length 0 [] (by omega) (by simp)
    have hmade : Ev (fun k => ancepsref09_Made.f k x c) (1 + Int.tmod x 12, l) := by
      unfold ancepsref09_Made.f
      rw [ea]
      exact hm
    generalize 1 + Int.tmod x 12 = a at hmade
    refine Ev.step (fun k => by rw [ancepslaw09_DagKeeps.j0, if_neg (by simp)]) (Ev.bind hmade (Ev.bind (rpaths_ev a l) ?_))
    by_cases hp : (paths a l).2 = 0
    · refine ev_pos hp ?_
      have hval : valid a l = 0 := by
        by_cases h : valid a l = 0
        · exact h
        · unfold paths at hp; rw [if_neg h] at hp; exact absurd hp h
      have hv := (valid_VG a l).1 hval
      have hw : ¬ rd (ways a l) 0 > 2000 := by
        intro h; unfold paths at hp; rw [if_pos hval, if_pos h] at hp; simp at hp
      have hcnt := fr_count hv hw
      have hcl := cs_len a l
      have hcost := costs_ev hv hw
      have hsl := srt_len (cs a l)
      have heq := equal_ev (srt (cs a l)) (by omega)
      -- backwards
      have hrv := hv.rev
      have hperm := cs_rev hv
      have hw2 : ¬ rd (ways a (l.map (rvx a))) 0 > 2000 := by rw [ways_cs hrv, hperm.length_eq, ← ways_cs hv]; exact hw
      have hcost2 := costs_ev hrv hw2
      rw [show srt (cs a (l.map (rvx a))) = srt (cs a l) from sort_perm hperm] at hcost2
      have hr := drev_ev a l
      have er : rev a l = (a, l.map (rvx a), 0) := by unfold rev; rw [if_pos hval]
      rw [er] at hr
      have hrvalid := rvalid_ev a (l.map (rvx a))
      rw [(valid_VG _ _).2 hrv] at hrvalid
      refine Ev.bind hr (ev_pos rfl (Ev.bind hrvalid (ev_pos rfl (Ev.bind hcost2 (Ev.bind hcost (Ev.bind heq ?_))))))
      refine Ev.step (fun k => by rw [show (!true) = false from rfl, ancepslaw09_DagKeeps.j1, if_neg (by simp)]) ?_
      by_cases hz : 0 < rd (ways a l) 0
      · have ht := dtrim_ev a l
        rw [trim_eq hv hz] at ht
        have hv2 := trim_VG hv hz
        have hcs := cs_trim hv hz
        have hw3 : ¬ rd (ways ((tr a l).1.length : Int) (ta (tr a l).2 l)) 0 > 2000 := by rw [ways_cs hv2, hcs, ← ways_cs hv]; exact hw
        have hcost3 := costs_ev hv2 hw3
        rw [hcs] at hcost3
        have hkvalid := rvalid_ev ((tr a l).1.length : Int) (ta (tr a l).2 l)
        rw [(valid_VG _ _).2 hv2] at hkvalid
        exact Ev.bind ht (ev_pos rfl (Ev.bind hkvalid (ev_pos rfl (Ev.bind hcost3 (Ev.bind hcost (Ev.bind heq (Ev.now _)))))))
      · have hlo := hv.lo
        have hz0 : rd (ways a l) 0 = 0 := by have := (ways_bd a l 0).1; omega
        have ht := dtrim_ev a l
        have et : trim a l = (0, [], [], 10) := by unfold trim; rw [if_pos hval, if_pos hz0]
        rw [et] at ht
        have hnil := ways_none hv (f := a.toNat) (n := 0) (by omega) (by omega) (by omega) hz
        have hcs0 : cs a l = [] := by unfold cs; rw [hnil]; rfl
        have hb : (((srt (cs a l)).length : Int) == 0) = true := by rw [hsl, hcs0]; rfl
        refine Ev.bind ht (ev_neg (by decide) (ev_pos rfl (Ev.bind hcost ?_)))
        rw [hb]
        exact Ev.now _
    · exact ev_neg hp (Ev.now _)
theorem u8_in {n : Int} (h : (Lit.int .u8 n).wf = true) : 0 ≤ n ∧ n < 256 := by
  have h2 : IntKind.u8.min ≤ n ∧ n ≤ IntKind.u8.max := by simpa [Lit.wf] using h
  have e1 : IntKind.u8.min = 0 := by decide
  have e2 : IntKind.u8.max = 255 := by decide
  omega
theorem u16_in {n : Int} (h : (Lit.int .u16 n).wf = true) : 0 ≤ n ∧ n < 65536 := by
  have h2 : IntKind.u16.min ≤ n ∧ n ≤ IntKind.u16.max := by simpa [Lit.wf] using h
  have e1 : IntKind.u16.min = 0 := by decide
  have e2 : IntKind.u16.max = 65535 := by decide
  omega
theorem DagKeeps (a0 : Int) (l1 : List Int) (w_a0 : (Lit.int .u8 a0).wf = true) (w_l1 : ∀ x, x ∈ l1 → (Lit.int .u16 x).wf = true) : ∃ k, F.ancepslaw09_DagKeeps.f k a0 l1 = some true := ev_rounds (dagKeeps_ev a0 (u8_in w_a0) l1 (fun y hy => u16_in (w_l1 y hy)))
end Go.Proofs.Ytanbffoilianhaa.Pure
