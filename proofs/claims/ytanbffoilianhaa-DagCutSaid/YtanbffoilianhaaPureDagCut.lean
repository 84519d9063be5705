/- The plain law behind DagCut: about the printed functions alone, no memory and no Go in it. -/
import Derived.Test.YtanbffoilianhaaPureC
import Derived.Test.YtanbffoilianhaaPureW
import Derived.Test.YtanbffoilianhaaE19
namespace Go.Proofs.Ytanbffoilianhaa.Pure
open Go.RowKit Go.Proofs.YtanbffoilianhaaW.PrintWords Go.Proofs.Ytanbffoilianhaa.E
set_option linter.unusedVariables false
set_option linter.unusedSimpArgs false
theorem rcut_loop (o : List Bool) (ho : (o.length : Int) ≤ 1000000) : ∀ (d i : Nat) (acc : List Int), i + d = o.length → acc.length ≤ i → Ev (fun k => ancepsref09_Cut.l0 k o acc i) (acc ++ tix (o.drop i) i, 0)
  | 0, i, acc, h, ha => by
    rw [List.drop_eq_nil_of_le (by omega)]
    refine Ev.step (f := fun _ => some (acc, 0)) (fun k => ?_) (by simpa [tix] using Ev.now _)
    rw [ancepsref09_Cut.l0, if_neg (by omega)]
  | d + 1, i, acc, h, ha => by
    have hi : i < o.length := by omega
    have hw := wrap_succ i o.length hi (by omega)
    rw [rdb_at o i hi, tix]
    by_cases e : rdOf false o i = true
    · have ih := rcut_loop o ho d (i + 1) (acc ++ [(i : Int)]) (by omega) (by simp; omega)
      rw [if_pos e]
      rw [List.append_assoc, List.singleton_append] at ih
      refine Ev.step (fun k => ?_) ih
      rw [ancepsref09_Cut.l0, if_pos (by omega), if_pos (by omega), if_pos e, if_pos (by omega), hw]
    · have ih := rcut_loop o ho d (i + 1) acc (by omega) (by omega)
      rw [if_neg e]
      refine Ev.step (fun k => ?_) ih
      rw [ancepsref09_Cut.l0, if_pos (by omega), if_pos (by omega), if_neg e, hw]
theorem rcut_ev (a : Int) (l : List S69) : Ev (fun k => ancepsref09_Cut.f k a l) (cut a l) := by
  refine Ev.bind (rvalid_ev a l) ?_
  unfold cut
  by_cases h : valid a l = 0
  · have hv := (valid_VG a l).1 h
    have h1 := hv.lo
    have h2 := hv.hi
    have h3 := reach_length a l
    rw [if_pos h, w64_in _ (by omega)]
    refine ev_pos h (Ev.bind (rreach_ev hv) (ev_pos (by omega) (ev_pos (by omega) (ev_ite (fun _ => Ev.now _) (fun _ => ?_)))))
    have := rcut_loop (reach a l) (by omega) (reach a l).length 0 [] (by omega) (by simp)
    simpa using this
  · rw [if_neg h]; exact ev_neg h (Ev.now _)
theorem tix_mem : ∀ (s : List Bool) (i n : Int), n ∈ tix s i ↔ i ≤ n ∧ n < i + s.length ∧ rdOf false s (n - i) = true
  | [], i, n => by simp [tix]; omega
  | b :: bs, i, n => by
    have ih := tix_mem bs (i + 1) n
    have e : i < n → rdOf false (b :: bs) (n - i) = rdOf false bs (n - (i + 1)) := by
      intro h
      unfold rdOf
      rw [show (n - i).toNat = (n - (i + 1)).toNat + 1 by omega]
      simp
    have e0 : rdOf false (b :: bs) (i - i) = b := by unfold rdOf; simp
    have hl : ((b :: bs).length : Int) = bs.length + 1 := by simp
    rw [tix]
    have key : (n ∈ tix bs (i + 1)) ↔ (i < n ∧ n < i + (b :: bs).length ∧ rdOf false (b :: bs) (n - i) = true) := by
      rw [ih, hl]
      constructor
      · rintro ⟨h1, h2, h3⟩; exact ⟨by omega, by omega, by rw [e (by omega)]; exact h3⟩
      · rintro ⟨h1, h2, h3⟩; exact ⟨by omega, by omega, by rw [e h1] at h3; exact h3⟩
    by_cases hb : b = true
    · rw [if_pos hb, List.mem_cons, key]
      constructor
      · rintro (rfl | ⟨h1, h2, h3⟩)
        · exact ⟨Int.le_refl _, by omega, by rw [e0]; exact hb⟩
        · exact ⟨by omega, h2, h3⟩
      · rintro ⟨h1, h2, h3⟩
        by_cases hn : n = i
        · exact .inl hn
        · exact .inr ⟨by omega, h2, h3⟩
    · rw [if_neg hb, key]
      constructor
      · rintro ⟨h1, h2, h3⟩; exact ⟨by omega, h2, h3⟩
      · rintro ⟨h1, h2, h3⟩
        by_cases hn : n = i
        · rw [hn, e0] at h3; exact absurd h3 hb
        · exact ⟨by omega, h2, h3⟩
theorem tix_chn (a : Int) : ∀ (s : List Bool) (i : Int) (p : Option Int), 0 ≤ i → i + s.length ≤ a → (∀ q, p = some q → q < i) → Chn a p (tix s i)
  | [], _, _, _, _, _ => trivial
  | b :: bs, i, p, h0, h1, hp => by
    have hl : ((b :: bs).length : Int) = bs.length + 1 := by simp
    rw [tix]
    by_cases hb : b = true
    · rw [if_pos hb]
      exact ⟨h0, by omega, hp, tix_chn a bs (i + 1) (some i) (by omega) (by omega) (fun q hq => by injection hq; omega)⟩
    · rw [if_neg hb]
      exact tix_chn a bs (i + 1) p (by omega) (by omega) (fun q hq => by have := hp q hq; omega)
theorem cut_CC {a : Int} {l : List S69} (hv : VG a l) (h : ¬ rdOf false (reach a l) (a - 1) = true) : CC a l (tix (reach a l) 0) := by
  have h1 := hv.lo
  have hl := reach_length a l
  have hc : Chn a none (tix (reach a l) 0) := tix_chn a _ 0 none (by omega) (by omega) (fun q hq => by cases hq)
  have key : ∀ t, 0 ≤ t → t < a → (rdOf false (marks (tix (reach a l) 0) (List.replicate a.toNat false)) t = true ↔ Rch l t 0) := by
    intro t ht ht2
    rw [marks_mem h1 hc t ht, tix_mem, show t - 0 = t by omega, reach_iff hv ht]
    exact ⟨fun hh => hh.2.2, fun hh => ⟨ht, by omega, hh⟩⟩
  refine ⟨hc, (key 0 (by omega) (by omega)).2 .refl, fun hh => h ((reach_iff hv (by omega)).2 ((key (a - 1) (by omega) (by omega)).1 hh)), fun x hx hp => ?_⟩
  have := hv.arc x hx
  exact (key x.f1 (by omega) (by omega)).2 (((key x.f0 (by omega) (by omega)).1 hp).snoc x hx rfl)
theorem ways_zero {a : Int} {l : List S69} (hv : VG a l) (h : ¬ Rch l (a - 1) 0) : rd (ways a l) 0 = 0 := by
  have h1 := hv.lo
  have h2 := (ways_bd a l 0).1
  by_cases hp : 0 < rd (ways a l) 0
  · exact absurd ((ways_iff hv (n := 0) (by omega) (by omega)).1 hp) h
  · omega
theorem cut_len (a : Int) (l : List S69) : ((cut a l).1.length : Int) ≤ 2000 := by
  unfold cut
  split
  · rename_i h
    have hv := (valid_VG a l).1 h
    have h1 := hv.hi
    have h2 := hv.lo
    have h3 := reach_length a l
    have h4 := tix_length (reach a l) 0
    split
    · simp
    · show ((tix (reach a l) 0).length : Int) ≤ 2000
      omega
  · simp
theorem dagCut_ev (a : Int) (l : List S69) : Ev (fun k => ancepslaw09_DagCut.f k a l) true := by
  refine Ev.bind awake_ev (ev_pos rfl ?_)
  have hj1 : Ev (fun k => ancepslaw09_DagCut.j0 k true a l) true :=
    Ev.step (fun k => by rw [ancepslaw09_DagCut.j0, if_pos rfl]) awake_bind
  have hj : Ev (fun k => ancepslaw09_DagCut.j0 k false a l) true := by
    have hlen := cut_len a l
    refine Ev.step (fun k => by rw [ancepslaw09_DagCut.j0, if_neg (by simp)]) ?_
    refine Ev.bind (dcut_ev a l) (Ev.bind (rcut_ev a l) (ev_pos rfl (Ev.bind (equal_ev _ (by omega)) ?_)))
    refine Ev.step (fun k => by rw [ancepslaw09_DagCut.j1, if_neg (by simp)]) ?_
    refine Ev.bind (rcount_ev a l) ?_
    by_cases h : valid a l = 0
    · have hv := (valid_VG a l).1 h
      have h1 := hv.lo
      by_cases hr : rdOf false (reach a l) (a - 1) = true
      · have hp : 0 < rd (ways a l) 0 := (ways_iff hv (by omega) (by omega)).2 ((reach_iff hv (by omega)).1 hr)
        have ec : cut a l = ([], 11) := by unfold cut; rw [if_pos h, if_pos hr]
        rw [ec]
        unfold count
        rw [if_pos h]
        by_cases hb : rd (ways a l) 0 > 4611686018427387904
        · rw [if_pos hb]
          exact ev_neg (by simp) (ev_neg (by simp) (Ev.now _))
        · rw [if_neg hb]
          exact ev_pos rfl (ev_neg (by simp [hp]) (ev_neg (by simp) (Ev.now _)))
      · have ec : cut a l = (tix (reach a l) 0, 0) := by unfold cut; rw [if_pos h, if_neg hr]
        have hcc := cut_CC hv hr
        have hz := ways_zero hv (hcc.none hv)
        rw [ec] at hlen ⊢
        obtain ⟨b, hb, hbi⟩ := dcc_ev a l (tix (reach a l) 0) (by have h_ : ((tix (reach a l) 0).length : Int) ≤ 2000 := hlen; omega)
        have hbt : b = true := hbi.2 ⟨hv, hcc⟩
        rw [hbt] at hb
        unfold count
        rw [if_pos h, hz, if_neg (by omega)]
        exact ev_pos rfl (ev_neg (by simp) (ev_pos rfl (Ev.bind hb (Ev.now _))))
    · have ec : cut a l = ([], valid a l) := by unfold cut; rw [if_neg h]
      rw [ec]
      unfold count
      rw [if_neg h]
      exact ev_neg h (ev_neg h (Ev.now _))
  obtain ⟨b, hb, -⟩ := few_some a l
  simp only [hb, Option.bind_some]
  cases b <;> assumption
theorem DagCut (a0_0 : Int) (l0_1 : List (S69)) (w_a0_0 : (Lit.int .i64 a0_0).wf = true) (w_l0_1 : ∀ x, x ∈ l0_1 → (Lit.int .i64 x.f0).wf = true ∧ (Lit.int .i64 x.f1).wf = true ∧ (Lit.int .i64 x.f2).wf = true) : ∃ k, E.ancepslaw09_DagCut.f k a0_0 l0_1 = some true := ev_rounds (dagCut_ev a0_0 l0_1)
end Go.Proofs.Ytanbffoilianhaa.Pure
