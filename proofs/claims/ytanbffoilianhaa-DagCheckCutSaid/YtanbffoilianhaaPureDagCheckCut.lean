/- The plain law behind DagCheckCut: about the printed functions alone, no memory and no Go in it. -/
import Derived.Test.YtanbffoilianhaaPureC
import Derived.Test.YtanbffoilianhaaPureW
import Derived.Test.YtanbffoilianhaaE22
namespace Go.Proofs.Ytanbffoilianhaa.Pure
open Go.RowKit Go.Proofs.YtanbffoilianhaaW.PrintWords Go.Proofs.Ytanbffoilianhaa.E
set_option linter.unusedVariables false
set_option linter.unusedSimpArgs false
/-! CheckCut of the reference -/
theorem rcc_arcs {a : Int} {l : List S69} (hv : VG a l) (o : List Bool) (ho : (o.length : Int) = a) : ∀ (d i : Nat), i + d = l.length → ∃ b, Ev (fun k => ancepsref09_CheckCut.l1 k o i a l) b ∧ (b = true ↔ Shut (l.drop i) o)
  | 0, i, h => by
    refine ⟨true, Ev.step (f := fun _ => some true) (fun k => by rw [ancepsref09_CheckCut.l1, if_neg (by omega)]) (Ev.now _), ?_⟩
    rw [List.drop_eq_nil_of_le (by omega)]
    exact ⟨fun _ x hx => by simp at hx, fun _ => rfl⟩
  | d + 1, i, h => by
    have hi : i < l.length := by omega
    have hlen := hv.len
    have hw := wrap_succ i l.length hi (by omega)
    have hdr := rdT_at l i hi
    have hx : rd_T69 l i ∈ l := by
      have h2 : rd_T69 l i ∈ l.drop i := by rw [hdr]; exact List.mem_cons_self
      exact List.mem_of_mem_drop h2
    have ha := hv.arc _ hx
    have hs : Shut (l.drop i) o ↔ (rdOf false o (rd_T69 l i).f0 = true → rdOf false o (rd_T69 l i).f1 = true) ∧ Shut (l.drop (i + 1)) o := by
      rw [hdr]; unfold Shut; simp
    obtain ⟨b, hb, hbi⟩ := rcc_arcs hv o ho d (i + 1) (by omega)
    by_cases e : rdOf false o (rd_T69 l i).f0 = true
    · by_cases e2 : rdOf false o (rd_T69 l i).f1 = true
      · refine ⟨b, Ev.step (fun k => ?_) hb, hbi.trans ?_⟩
        · rw [ancepsref09_CheckCut.l1, if_pos (by omega), if_pos (by omega), if_pos (by omega), if_pos (by omega), if_pos e, if_pos (by omega), if_pos (by omega), if_pos e2, hw]
        · rw [hs]; exact ⟨fun h => ⟨fun _ => e2, h⟩, fun h => h.2⟩
      · refine ⟨false, Ev.step (f := fun _ => some false) (fun k => ?_) (Ev.now _), ?_⟩
        · rw [ancepsref09_CheckCut.l1, if_pos (by omega), if_pos (by omega), if_pos (by omega), if_pos (by omega), if_pos e, if_pos (by omega), if_pos (by omega), if_neg e2]
        · rw [hs]; exact ⟨fun h => by simp at h, fun h => absurd (h.1 e) e2⟩
    · refine ⟨b, Ev.step (fun k => ?_) hb, hbi.trans ?_⟩
      · rw [ancepsref09_CheckCut.l1, if_pos (by omega), if_pos (by omega), if_pos (by omega), if_pos (by omega), if_neg e, hw]
      · rw [hs]; exact ⟨fun h => ⟨fun h1 => absurd h1 e, h⟩, fun h => h.2⟩
theorem rcc_loop {a : Int} {l : List S69} (hv : VG a l) (ns : List Int) (hns : (ns.length : Int) ≤ 1000000) (hz : 0 ≤ rd ns 0) : ∀ (d i : Nat) (o : List Bool), i + d = ns.length → (o.length : Int) = a → (i ≠ 0 → 0 ≤ rd ns ((i : Int) - 1)) →
    ∃ b, Ev (fun k => ancepsref09_CheckCut.l0 k ns o i a l) b ∧ (b = true ↔ Chn a (if i = 0 then none else some (rd ns ((i : Int) - 1))) (ns.drop i) ∧ Shut l (marks (ns.drop i) o))
  | 0, i, o, h, ho, _ => by
    rw [List.drop_eq_nil_of_le (by omega)]
    obtain ⟨b, hb, hbi⟩ := rcc_arcs hv o ho l.length 0 (by omega)
    rw [List.drop_zero] at hbi
    refine ⟨b, Ev.step (fun k => by rw [ancepsref09_CheckCut.l0, if_neg (by omega)]; rfl) hb, hbi.trans ⟨fun h => ⟨trivial, h⟩, fun h => h.2⟩⟩
  | d + 1, i, o, h, ho, hp0 => by
    have hi : i < ns.length := by omega
    have hw := wrap_succ i ns.length hi (by omega)
    rw [rd_at ns i hi]
    have hsome : (if i + 1 = 0 then none else some (rd ns (((i + 1 : Nat) : Int) - 1))) = some (rd ns i) := by
      rw [if_neg (by omega)]; congr 2; omega
    have bad : ∀ (P : Prop), ¬ P → (∀ k, ancepsref09_CheckCut.l0 (k + 1) ns o i a l = some false) → ∃ b, Ev (fun k => ancepsref09_CheckCut.l0 k ns o i a l) b ∧ (b = true ↔ P) :=
      fun P hP hst => ⟨false, Ev.step (f := fun _ => some false) hst (Ev.now _), by simp [hP]⟩
    have go : 0 ≤ rd ns i → rd ns i < a → (∀ q, (if i = 0 then none else some (rd ns ((i : Int) - 1))) = some q → q < rd ns i) → (∀ k, ancepsref09_CheckCut.l0 (k + 1) ns o i a l = ancepsref09_CheckCut.l0 k ns (o.set (rd ns i).toNat true) ((i + 1 : Nat) : Int) a l) →
        ∃ b, Ev (fun k => ancepsref09_CheckCut.l0 k ns o i a l) b ∧ (b = true ↔ Chn a (if i = 0 then none else some (rd ns ((i : Int) - 1))) (rd ns i :: ns.drop (i + 1)) ∧ Shut l (marks (rd ns i :: ns.drop (i + 1)) o)) := by
      intro e0 e1 hp hst
      obtain ⟨b, hb, hbi⟩ := rcc_loop hv ns hns hz d (i + 1) (o.set (rd ns i).toNat true) (by omega) (by simpa using ho) (fun _ => by rw [show ((i + 1 : Nat) : Int) - 1 = i by omega]; exact e0)
      rw [hsome] at hbi
      exact ⟨b, Ev.step hst hb, hbi.trans ⟨fun hh => ⟨⟨e0, e1, hp, hh.1⟩, hh.2⟩, fun hh => ⟨hh.1.2.2.2, hh.2⟩⟩⟩
    by_cases e2 : i = 0
    · subst e2
      by_cases e1 : rd ns ((0 : Nat) : Int) ≥ a
      · exact bad _ (fun hh => by have := hh.1.2.1; omega) (fun k => by rw [ancepsref09_CheckCut.l0, if_pos (by omega), if_neg (by omega), if_pos (by omega), if_pos e1])
      · have hz' : 0 ≤ rd ns ((0 : Nat) : Int) := hz
        refine go hz' (by omega) (fun q hq => by cases hq) (fun k => ?_)
        rw [ancepsref09_CheckCut.l0, if_pos (by omega), if_neg (by omega), if_pos (by omega), if_neg e1, if_pos (by omega), if_pos (by omega), hw]
    · have hpi := hp0 e2
      by_cases e3 : rd ns i ≤ rd ns ((i : Int) - 1)
      · refine bad _ (fun hh => ?_) (fun k => by rw [ancepsref09_CheckCut.l0, if_pos (by omega), if_pos (by omega), if_pos (by omega), w64_in ((i : Int) - 1) (by omega), if_pos (by omega), if_pos (by omega), if_pos e3])
        have := hh.1.2.2.1 (rd ns ((i : Int) - 1)) (by rw [if_neg e2])
        omega
      · by_cases e1 : rd ns i ≥ a
        · exact bad _ (fun hh => by have := hh.1.2.1; omega) (fun k => by rw [ancepsref09_CheckCut.l0, if_pos (by omega), if_pos (by omega), if_pos (by omega), w64_in ((i : Int) - 1) (by omega), if_pos (by omega), if_pos (by omega), if_neg e3, if_pos e1])
        · refine go (by omega) (by omega) (fun q hq => by rw [if_neg e2] at hq; injection hq with hq; omega) (fun k => ?_)
          rw [ancepsref09_CheckCut.l0, if_pos (by omega), if_pos (by omega), if_pos (by omega), w64_in ((i : Int) - 1) (by omega), if_pos (by omega), if_pos (by omega), if_neg e3, if_neg e1, if_pos (by omega), if_pos (by omega), hw]
theorem Chn.last {a : Int} : ∀ {ns : List Int} {p : Option Int}, Chn a p ns → ∀ n, n ∈ ns → n ≤ rd ns ((ns.length : Int) - 1) ∧ rd ns ((ns.length : Int) - 1) ∈ ns
  | [], _, _, n, h => by simp at h
  | [m], p, _, n, h => by
    obtain rfl : n = m := by simpa using h
    have e : rd [n] (([n] : List Int).length - 1 : Int) = n := by rfl
    rw [e]; simp
  | m :: m2 :: ns, p, ⟨_, _, _, h3⟩, n, h => by
    have e : rd (m :: m2 :: ns) (((m :: m2 :: ns).length : Int) - 1) = rd (m2 :: ns) (((m2 :: ns).length : Int) - 1) := by
      unfold rd
      rw [show (((m :: m2 :: ns).length : Int) - 1).toNat = (((m2 :: ns).length : Int) - 1).toNat + 1 by simp only [List.length_cons]; omega]
      simp
    rw [e]
    rcases List.mem_cons.1 h with rfl | h
    · have := Chn.last h3 m2 List.mem_cons_self
      have := h3.2.2.1 n rfl
      exact ⟨by omega, List.mem_cons_of_mem _ (Chn.last h3 m2 List.mem_cons_self).2⟩
    · have := Chn.last h3 n h
      exact ⟨this.1, List.mem_cons_of_mem _ this.2⟩
theorem CC_iff {a : Int} {l : List S69} (hv : VG a l) (ns : List Int) : CC a l ns ↔ (ns.length : Int) ≠ 0 ∧ rd ns 0 = 0 ∧ rd ns ((ns.length : Int) - 1) < a - 1 ∧ Chn a none ns ∧ Shut l (marks ns (List.replicate a.toNat false)) := by
  have h1 := hv.lo
  constructor
  · rintro ⟨hc, h0, he, hs⟩
    have m0 := (marks_mem h1 hc 0 (by omega)).1 h0
    have me : ¬ (a - 1) ∈ ns := fun h => he ((marks_mem h1 hc (a - 1) (by omega)).2 h)
    have hne : (ns.length : Int) ≠ 0 := by intro h; cases ns with | nil => simp at m0 | cons x xs => simp at h; omega
    refine ⟨hne, ?_, ?_, hc, hs⟩
    · cases ns with
      | nil => simp at m0
      | cons x xs =>
        rcases List.mem_cons.1 m0 with h | h
        · show x = 0
          exact h.symm
        · have := hc.2.2.2.mem 0 h
          have h2 := this.2.2 x rfl
          have := hc.1
          omega
    · have hl := hc.last 0 m0
      have := hc.mem _ hl.2
      have hne2 : rd ns ((ns.length : Int) - 1) ≠ a - 1 := fun h => me (h ▸ hl.2)
      omega
  · rintro ⟨hne, h0, hl, hc, hs⟩
    cases ns with
    | nil => simp at hne
    | cons x xs =>
      have hx : x = 0 := h0
      refine ⟨hc, (marks_mem h1 hc 0 (by omega)).2 (by rw [hx]; exact List.mem_cons_self), fun h => ?_, hs⟩
      have := hc.last _ ((marks_mem h1 hc (a - 1) (by omega)).1 h)
      omega
theorem rcc_ev (a : Int) (l : List S69) (ns : List Int) (hns : (ns.length : Int) ≤ 1000000) : ∃ b, Ev (fun k => ancepsref09_CheckCut.f k a l ns) b ∧ (b = true ↔ VG a l ∧ CC a l ns) := by
  have hno : Ev (fun k => ancepsref09_CheckCut.j0 k ns true a l) false := Ev.step (f := fun _ => some false) (fun k => by rw [ancepsref09_CheckCut.j0, if_pos rfl]) (Ev.now _)
  by_cases h : valid a l = 0
  · have hv := (valid_VG a l).1 h
    have h1 := hv.lo
    have h2 := hv.hi
    have hiff : ∀ b : Bool, (b = true ↔ CC a l ns) → (b = true ↔ VG a l ∧ CC a l ns) := fun b hb => hb.trans ⟨fun h => ⟨hv, h⟩, fun h => h.2⟩
    by_cases e0 : (ns.length : Int) = 0
    · exact ⟨false, Ev.bind (rvalid_ev a l) (ev_pos h (ev_pos e0 hno)), hiff _ (by rw [CC_iff hv]; simp [e0])⟩
    · by_cases e1 : rd ns 0 = 0
      · by_cases e2 : rd ns ((ns.length : Int) - 1) ≥ a - 1
        · refine ⟨false, Ev.bind (rvalid_ev a l) (ev_pos h (ev_neg e0 (ev_pos (by omega) (ev_pos e1 ?_)))), hiff _ ?_⟩
          · rw [w64_in (a - 1) (by omega), w64_in ((ns.length : Int) - 1) (by omega), decide_eq_true e2]
            exact ev_pos (by omega) (ev_pos (by omega) hno)
          · rw [CC_iff hv]; exact ⟨fun h => by simp at h, fun h => by omega⟩
        · obtain ⟨b, hb, hbi⟩ := rcc_loop hv ns hns (by omega) ns.length 0 (List.replicate a.toNat false) (by omega) (by simp; omega) (fun h => absurd rfl h)
          rw [if_pos rfl, List.drop_zero] at hbi
          refine ⟨b, Ev.bind (rvalid_ev a l) (ev_pos h (ev_neg e0 (ev_pos (by omega) (ev_pos e1 ?_)))), hiff _ (hbi.trans ?_)⟩
          · rw [w64_in (a - 1) (by omega), w64_in ((ns.length : Int) - 1) (by omega), decide_eq_false e2]
            exact ev_pos (by omega) (ev_pos (by omega) (Ev.step (f := fun k => ancepsref09_CheckCut.l0 k ns (List.replicate a.toNat false) 0 a l) (fun k => by rw [ancepsref09_CheckCut.j0, if_neg (by simp), if_pos (by omega), if_pos (by omega)]) hb))
          · rw [CC_iff hv]; exact ⟨fun h => ⟨e0, e1, by omega, h.1, h.2⟩, fun h => ⟨h.2.2.2.1, h.2.2.2.2⟩⟩
      · exact ⟨false, Ev.bind (rvalid_ev a l) (ev_pos h (ev_neg e0 (ev_pos (by omega) (ev_neg e1 hno)))), hiff _ (by rw [CC_iff hv]; simp [e1])⟩
  · exact ⟨false, Ev.bind (rvalid_ev a l) (ev_neg h hno), ⟨fun hb => by simp at hb, fun hh => absurd ((valid_VG a l).2 hh.1) h⟩⟩
theorem dagCheckCut_ev (a : Int) (l : List S69) (ns : List Int) : Ev (fun k => ancepslaw09_DagCheckCut.f k a l ns) true := by
  refine Ev.bind awake_ev (ev_pos rfl ?_)
  have hj1 : Ev (fun k => ancepslaw09_DagCheckCut.j0 k ns true a l) true :=
    Ev.step (fun k => by rw [ancepslaw09_DagCheckCut.j0, if_pos rfl]) awake_bind
  have hj : (ns.length : Int) ≤ 60 → Ev (fun k => ancepslaw09_DagCheckCut.j0 k ns false a l) true := by
    intro hn
    obtain ⟨b, hb, hbi⟩ := dcc_ev a l ns (by omega)
    obtain ⟨b2, hb2, hbi2⟩ := rcc_ev a l ns (by omega)
    have e : b2 = b := by
      cases b <;> cases b2 <;> first | rfl | (exact absurd (hbi.1.trans hbi2.2) (by simp)) | skip
      · exact absurd (hbi.2 (hbi2.1 rfl)) (by simp)
      · exact absurd (hbi2.2 (hbi.1 rfl)) (by simp)
    subst e
    refine Ev.step (fun k => by rw [ancepslaw09_DagCheckCut.j0, if_neg (by simp)]) ?_
    refine Ev.bind hb (Ev.bind (rcount_ev a l) (Ev.bind hb2 (ev_pos (by simp) ?_)))
    by_cases hbt : b2 = true
    · obtain ⟨hv, hcc⟩ := hbi.1 hbt
      have h1 := hv.lo
      have hz : rd (ways a l) 0 = 0 := by
        have h2 := (ways_bd a l 0).1
        by_cases hp : 0 < rd (ways a l) 0
        · exact absurd ((ways_iff hv (n := 0) (by omega) (by omega)).1 hp) (hcc.none hv)
        · omega
      have hct : count a l = (0, 0) := by unfold count; rw [if_pos ((valid_VG a l).2 hv), hz, if_neg (by omega)]
      rw [hct]
      exact ev_pos hbt (ev_pos rfl (Ev.now _))
    · exact ev_neg hbt (Ev.now _)
  obtain ⟨b, hb, -⟩ := few_some a l
  simp only [hb, Option.bind_some]
  cases b
  · exact ev_neg (by simp) hj1
  · refine ev_pos rfl ?_
    by_cases hg : (ns.length : Int) > 60
    · rw [decide_eq_true hg]; exact hj1
    · rw [decide_eq_false hg]; exact hj (by omega)
theorem DagCheckCut (a0_0 : Int) (l0_1 : List (S69)) (l1 : List Int) (w_a0_0 : (Lit.int .i64 a0_0).wf = true) (w_l0_1 : ∀ x, x ∈ l0_1 → (Lit.int .i64 x.f0).wf = true ∧ (Lit.int .i64 x.f1).wf = true ∧ (Lit.int .i64 x.f2).wf = true) (w_l1 : ∀ x, x ∈ l1 → (Lit.int .i64 x).wf = true) : ∃ k, E.ancepslaw09_DagCheckCut.f k a0_0 l0_1 l1 = some true := ev_rounds (dagCheckCut_ev a0_0 l0_1 l1)
end Go.Proofs.Ytanbffoilianhaa.Pure
