/- The plain law behind C: about the printed functions alone, no memory and no Go in it. -/
import Derived.Test.YtanbffoilianhaaPureS
import Derived.Test.YtanbffoilianhaaE5
import Derived.Test.YtanbffoilianhaaE18
import Derived.Test.YtanbffoilianhaaE20
namespace Go.Proofs.Ytanbffoilianhaa.Pure
open Go.RowKit Go.Proofs.YtanbffoilianhaaW.PrintWords Go.Proofs.Ytanbffoilianhaa.E
set_option linter.unusedVariables false
set_option linter.unusedSimpArgs false
/-! ### reached, Cut, CheckCut -/
theorem ix_foldl {σ : Type} (F : σ → S69 → σ) (l : List S69) (n : Int) : ∀ (s : List S69) (i : Nat) (o : σ), l.drop i = s → (ix n s i).foldl (fun o j => F o (rd_T69 l j)) o = s.foldl (fun o x => if x.f0 = n then F o x else o) o
  | [], _, _, _ => rfl
  | x :: s, i, o, h => by
    have hi : i < l.length := by
      rcases Nat.lt_or_ge i l.length with h1 | h1
      · exact h1
      · rw [List.drop_eq_nil_of_le h1] at h; cases h
    have h2 := rdT_at l i hi
    rw [h] at h2
    injection h2 with h3 h4
    have ih := fun o => ix_foldl F l n s (i + 1) o h4.symm
    rw [ix]
    by_cases hx : x.f0 = n
    · rw [if_pos hx, List.foldl_cons, List.foldl_cons, if_pos hx]
      have := ih (F o (rd_T69 l i))
      rw [show ((i + 1 : Nat) : Int) = (i : Int) + 1 by omega] at this
      rw [this, h3]
    · rw [if_neg hx, List.foldl_cons, if_neg hx]
      have := ih o
      rw [show ((i + 1 : Nat) : Int) = (i : Int) + 1 by omega] at this
      exact this
def rarc (l : List S69) (n : Int) (o : List Bool) (j : Int) : List Bool := if rdOf false o n = true then o.set (rd_T69 l j).f1.toNat true else o
theorem rarc_length (l : List S69) (n : Int) (o : List Bool) (j : Int) : (rarc l n o j).length = o.length := by unfold rarc; split <;> simp
theorem ix_rst (l : List S69) (n : Int) (o : List Bool) : (ix n l 0).foldl (rarc l n) o = rst n l o :=
  ix_foldl (fun o x => if rdOf false o n = true then o.set x.f1.toNat true else o) l n l 0 o rfl
theorem dreach_in {a : Int} {l : List S69} (n : Int) (hn : 0 ≤ n) (hn2 : n < a) (B : List (List Int)) (bl bi : Int) (J : List Int) (hJl : (J.length : Int) ≤ 9223372036854775807)
    (hJ : ∀ j, j ∈ J → 0 ≤ j ∧ j < (l.length : Int) ∧ 0 ≤ (rd_T69 l j).f1 ∧ (rd_T69 l j).f1 < a) {r : List Bool} : ∀ (d i : Nat) (o : List Bool), i + d = J.length → (o.length : Int) = a →
    Ev (fun k => dag_reached.l0 k ((J.drop i).foldl (rarc l n) o) B bl (wrap64 (bi + 1)) a l) r → Ev (fun k => dag_reached.l1 k o n B bl bi J J.length i a l) r
  | 0, i, o, h, ho, hr => by
    rw [List.drop_eq_nil_of_le (by omega)] at hr
    refine Ev.step (fun k => ?_) hr
    rw [dag_reached.l1, if_neg (by omega)]; rfl
  | d + 1, i, o, h, ho, hr => by
    have hi : i < J.length := by omega
    have hw := wrap_succ i J.length hi hJl
    have hj := hJ _ (rd_mem J i hi)
    rw [rd_at J i hi, List.foldl_cons] at hr
    have ih := dreach_in n hn hn2 B bl bi J hJl hJ d (i + 1) (rarc l n o (rd J i)) (by omega) (by rw [rarc_length]; exact ho) hr
    refine Ev.step (fun k => ?_) ih
    rw [dag_reached.l1, if_pos (by omega), if_pos (by omega), if_pos (by omega), if_pos (by omega), if_pos (by omega), hw]
    unfold rarc
    by_cases e : rdOf false o n = true
    · rw [if_pos e, if_pos e, if_pos (by omega), if_pos (by omega), if_pos (by omega), if_pos (by omega)]
    · rw [if_neg e, if_neg e]
theorem dreach_out {a : Int} {l : List S69} (hv : VG a l) (B : List (List Int)) (hB : (B.length : Int) = a) (hn : ∀ n, 0 ≤ n → n < a → rd_L2 B n = ix n l 0) : ∀ (d : Nat) (n : Nat) (o : List Bool), (n : Int) + d = a → (o.length : Int) = a →
    Ev (fun k => dag_reached.l0 k o B B.length n a l) (rys l d n o)
  | 0, n, o, h, ho => by
    refine Ev.step (f := fun _ => some o) (fun k => ?_) (Ev.now _)
    rw [dag_reached.l0, if_neg (by omega)]
  | d + 1, n, o, h, ho => by
    have hh := hv.hi
    have ih := dreach_out hv B hB hn d (n + 1) (rst n l o) (by omega) (by rw [rst_length]; exact ho)
    have hb := hn n (by omega) (by omega)
    have hl := hv.len
    have hil := ix_length (n : Int) l 0
    rw [rys]
    refine Ev.step (fun k => by rw [dag_reached.l0, if_pos (by omega), if_pos (by omega), if_pos (by omega), hb]) ?_
    refine dreach_in (n : Int) (by omega) (by omega) B B.length n (ix n l 0) (by omega) (fun j hj => ?_) (ix n l 0).length 0 o (by omega) ho ?_
    · obtain ⟨h1, h2, _, h3⟩ := ix_mem n l 0 j hj
      rw [show j - 0 = j by omega] at h3
      have := hv.arc _ h3
      omega
    · rw [List.drop_zero, ix_rst, w64_in _ (by omega)]
      rw [show ((n + 1 : Nat) : Int) = (n : Int) + 1 by omega] at ih
      exact ih
theorem dreach_ev {a : Int} {l : List S69} (hv : VG a l) : Ev (fun k => dag_reached.f k a l) (reach a l) := by
  have h1 := hv.lo
  have h2 := hv.hi
  obtain ⟨B, hB, hl, hn⟩ := byFrom_ev hv
  unfold dag_reached.f
  refine ev_pos (by omega) (ev_pos (by omega) (ev_some (ev_pos (by simp; omega) (Ev.bind hB ?_))))
  have := dreach_out hv B hl hn a.toNat 0 (reach0 a) (by omega) (by rw [reach0_length]; omega)
  exact this
theorem rreach_in {a : Int} {l : List S69} (hv : VG a l) (n : Int) (hn : 0 ≤ n) (hn2 : n < a) {r : List Bool} : ∀ (d i : Nat) (o : List Bool), i + d = l.length → (o.length : Int) = a →
    Ev (fun k => ancepsref09_reached.l0 k (rst n (l.drop i) o) (n + 1) a l) r → Ev (fun k => ancepsref09_reached.l1 k o n i a l) r
  | 0, i, o, h, ho, hr => by
    rw [List.drop_eq_nil_of_le (by omega)] at hr
    have := hv.hi
    refine Ev.step (fun k => ?_) hr
    rw [ancepsref09_reached.l1, if_neg (by omega), w64_in (n + 1) (by omega)]; rfl
  | d + 1, i, o, h, ho, hr => by
    have hi : i < l.length := by omega
    have hlen := hv.len
    have hw := wrap_succ i l.length hi (by omega)
    have hdr := rdT_at l i hi
    have hx : rd_T69 l i ∈ l := by
      have h2 : rd_T69 l i ∈ l.drop i := by rw [hdr]; exact List.mem_cons_self
      exact List.mem_of_mem_drop h2
    have ha := hv.arc _ hx
    rw [hdr, rst_cons] at hr
    have ih := rreach_in hv n hn hn2 d (i + 1) _ (by omega) (by split <;> (try split) <;> simpa using ho) hr
    refine Ev.step (fun k => ?_) ih
    rw [ancepsref09_reached.l1, if_pos (by omega), if_pos (by omega), hw]
    by_cases e : (rd_T69 l i).f0 = n
    · rw [if_pos e, if_pos e, if_pos (by omega), if_pos (by omega)]
      by_cases e2 : rdOf false o n = true
      · rw [if_pos e2, if_pos e2, if_pos (by omega), if_pos (by omega)]
      · rw [if_neg e2, if_neg e2]
    · rw [if_neg e, if_neg e]
theorem rreach_out {a : Int} {l : List S69} (hv : VG a l) : ∀ (d : Nat) (n : Nat) (o : List Bool), (n : Int) + d = a → (o.length : Int) = a → Ev (fun k => ancepsref09_reached.l0 k o n a l) (rys l d n o)
  | 0, n, o, h, ho => by
    refine Ev.step (f := fun _ => some o) (fun k => ?_) (Ev.now _)
    rw [ancepsref09_reached.l0, if_neg (by omega)]
  | d + 1, n, o, h, ho => by
    have ih := rreach_out hv d (n + 1) (rst n l o) (by omega) (by rw [rst_length]; exact ho)
    rw [rys]
    refine Ev.step (fun k => by rw [ancepsref09_reached.l0, if_pos (by omega)]) ?_
    refine rreach_in hv (n : Int) (by omega) (by omega) l.length 0 o (by omega) ho ?_
    rw [List.drop_zero]
    exact ih
theorem rreach_ev {a : Int} {l : List S69} (hv : VG a l) : Ev (fun k => ancepsref09_reached.f k a l) (reach a l) := by
  have h1 := hv.lo
  have h2 := hv.hi
  unfold ancepsref09_reached.f
  refine ev_pos (by omega) (ev_pos (by omega) (ev_some (ev_pos (by simp; omega) ?_)))
  exact rreach_out hv a.toNat 0 (reach0 a) (by omega) (by rw [reach0_length]; omega)
/-- The places of the true ones, from i on. -/
def tix : List Bool → Int → List Int
  | [], _ => []
  | b :: bs, i => if b = true then i :: tix bs (i + 1) else tix bs (i + 1)
theorem tix_length : ∀ (o : List Bool) (i : Int), (tix o i).length ≤ o.length
  | [], _ => by simp [tix]
  | b :: bs, i => by have := tix_length bs (i + 1); rw [tix]; split <;> simp <;> omega
theorem rdb_at (l : List Bool) (i : Nat) (hi : i < l.length) : l.drop i = rdOf false l i :: l.drop (i + 1) := getD_drop l i false hi
theorem dcut_loop (o : List Bool) (ho : (o.length : Int) ≤ 1000000) : ∀ (d i : Nat) (acc : List Int), i + d = o.length → acc.length ≤ i → Ev (fun k => dag_Cut.l0 k acc o o.length i) (acc ++ tix (o.drop i) i, 0)
  | 0, i, acc, h, ha => by
    rw [List.drop_eq_nil_of_le (by omega)]
    refine Ev.step (f := fun _ => some (acc, 0)) (fun k => ?_) (by simpa [tix] using Ev.now _)
    rw [dag_Cut.l0, if_neg (by omega)]
  | d + 1, i, acc, h, ha => by
    have hi : i < o.length := by omega
    have hw := wrap_succ i o.length hi (by omega)
    rw [rdb_at o i hi, tix]
    by_cases e : rdOf false o i = true
    · have ih := dcut_loop o ho d (i + 1) (acc ++ [(i : Int)]) (by omega) (by simp; omega)
      rw [if_pos e]
      rw [List.append_assoc, List.singleton_append] at ih
      refine Ev.step (fun k => ?_) ih
      rw [dag_Cut.l0, if_pos (by omega), if_pos (by omega), if_pos (by omega), if_pos e, if_pos (by omega), hw]
    · have ih := dcut_loop o ho d (i + 1) acc (by omega) (by omega)
      rw [if_neg e]
      refine Ev.step (fun k => ?_) ih
      rw [dag_Cut.l0, if_pos (by omega), if_pos (by omega), if_pos (by omega), if_neg e, hw]
def cut (a : Int) (l : List S69) : List Int × Int := if valid a l = 0 then (if rdOf false (reach a l) (a - 1) = true then ([], 11) else (tix (reach a l) 0, 0)) else ([], valid a l)
theorem dcut_ev (a : Int) (l : List S69) : Ev (fun k => dag_Cut.f k a l) (cut a l) := by
  refine Ev.bind (valid_ev a l) ?_
  unfold cut
  by_cases h : valid a l = 0
  · have hv := (valid_VG a l).1 h
    have h1 := hv.lo
    have h2 := hv.hi
    have h3 := reach_length a l
    rw [if_pos h, w64_in _ (by omega)]
    refine ev_pos h (Ev.bind (dreach_ev hv) (ev_pos (by omega) (ev_pos (by omega) (ev_ite (fun _ => Ev.now _) (fun _ => ?_)))))
    have := dcut_loop (reach a l) (by omega) (reach a l).length 0 [] (by omega) (by simp)
    simpa using this
  · rw [if_neg h]; exact ev_neg h (Ev.now _)
theorem equal_loop (l : List Int) (hl : (l.length : Int) ≤ 9223372036854775807) : ∀ (d i : Nat), i + d = l.length → Ev (fun k => slices_Equal_int_int.l0 k l l l.length i) true
  | 0, i, h => Ev.step (f := fun _ => some true) (fun k => by rw [slices_Equal_int_int.l0, if_neg (by omega)]) (Ev.now _)
  | d + 1, i, h => by
    have hw := wrap_succ i l.length (by omega) hl
    refine Ev.step (fun k => ?_) (equal_loop l hl d (i + 1) (by omega))
    rw [slices_Equal_int_int.l0, if_pos (by omega), if_pos (by omega), if_pos (by omega), if_pos (by omega), if_pos rfl, hw]
theorem equal_ev (l : List Int) (hl : (l.length : Int) ≤ 9223372036854775807) : Ev (fun k => slices_Equal_int_int.f k l l) true :=
  ev_pos rfl (equal_loop l hl l.length 0 (by omega))

/-! CheckCut -/
def Chn (a : Int) : Option Int → List Int → Prop
  | _, [] => True
  | p, n :: ns => 0 ≤ n ∧ n < a ∧ (∀ q, p = some q → q < n) ∧ Chn a (some n) ns
theorem Chn.mem {a : Int} : ∀ {ns : List Int} {p : Option Int}, Chn a p ns → ∀ n, n ∈ ns → 0 ≤ n ∧ n < a ∧ ∀ q, p = some q → q < n
  | [], _, _, n, h => by simp at h
  | m :: ns, p, ⟨h0, h1, h2, h3⟩, n, h => by
    rcases List.mem_cons.1 h with rfl | h
    · exact ⟨h0, h1, h2⟩
    · have := Chn.mem h3 n h
      exact ⟨this.1, this.2.1, fun q hq => by have := this.2.2 m rfl; have := h2 q hq; omega⟩
def marks (ns : List Int) (o : List Bool) : List Bool := ns.foldl (fun o n => o.set n.toNat true) o
theorem marks_length : ∀ (ns : List Int) (o : List Bool), (marks ns o).length = o.length
  | [], _ => rfl
  | n :: ns, o => by unfold marks; rw [List.foldl_cons]; exact (marks_length ns _).trans (by simp)
theorem marks_at {a : Int} : ∀ (ns : List Int) (p : Option Int) (o : List Bool), (o.length : Int) = a → Chn a p ns → ∀ t, 0 ≤ t → (rdOf false (marks ns o) t = true ↔ rdOf false o t = true ∨ t ∈ ns)
  | [], _, _, _, _, t, _ => by simp [marks]
  | n :: ns, p, o, ho, ⟨h0, h1, _, h3⟩, t, ht => by
    have ih := marks_at ns (some n) (o.set n.toNat true) (by simpa using ho) h3 t ht
    have e : marks (n :: ns) o = marks ns (o.set n.toNat true) := rfl
    rw [e, ih, rdb_set _ _ _ _ h0 (by omega) ht, List.mem_cons]
    by_cases en : n = t
    · rw [if_pos en]; simp [en]
    · rw [if_neg en]
      constructor
      · rintro (h | h)
        · exact .inl h
        · exact .inr (.inr h)
      · rintro (h | h | h)
        · exact .inl h
        · exact absurd h.symm en
        · exact .inr h
def Shut (l : List S69) (o : List Bool) : Prop := ∀ x, x ∈ l → rdOf false o x.f0 = true → rdOf false o x.f1 = true
theorem contains_loop {a : Int} {l : List S69} (hv : VG a l) (o : List Bool) (ho : (o.length : Int) = a) : ∀ (d i : Nat), i + d = l.length → ∃ r : Int, Ev (fun k => api_Arc_dag_CheckCut_1_v1.l0 k l l.length i o) r ∧ (r ≥ 0 ↔ ¬ Shut (l.drop i) o)
  | 0, i, h => by
    refine ⟨-1, Ev.step (f := fun _ => some (-1)) (fun k => by rw [api_Arc_dag_CheckCut_1_v1.l0, if_neg (by omega)]) (Ev.now _), ?_⟩
    rw [List.drop_eq_nil_of_le (by omega)]
    exact ⟨fun h => by omega, fun h => absurd (fun x hx => by simp at hx) h⟩
  | d + 1, i, h => by
    have hi : i < l.length := by omega
    have hlen := hv.len
    have hw := wrap_succ i l.length hi (by omega)
    have hdr := rdT_at l i hi
    have hx : rd_T69 l i ∈ l := by
      have h2 : rd_T69 l i ∈ l.drop i := by rw [hdr]; exact List.mem_cons_self
      exact List.mem_of_mem_drop h2
    have ha := hv.arc _ hx
    have hf : dag_CheckCut_1_v1.f (rd_T69 l i).f0 (rd_T69 l i).f1 (rd_T69 l i).f2 o = some (rdOf false o (rd_T69 l i).f0 && !(rdOf false o (rd_T69 l i).f1)) := by
      unfold dag_CheckCut_1_v1.f
      rw [if_pos (by omega), if_pos (by omega)]
      by_cases e : rdOf false o (rd_T69 l i).f0 = true
      · rw [if_pos e, if_pos (by omega), if_pos (by omega), e]; rfl
      · rw [if_neg e]; simp at e; rw [e]; rfl
    have hs : Shut (l.drop i) o ↔ (rdOf false o (rd_T69 l i).f0 = true → rdOf false o (rd_T69 l i).f1 = true) ∧ Shut (l.drop (i + 1)) o := by
      rw [hdr]; unfold Shut; simp
    by_cases e : (rdOf false o (rd_T69 l i).f0 && !(rdOf false o (rd_T69 l i).f1)) = true
    · refine ⟨i, Ev.step (f := fun _ => some (i : Int)) (fun k => ?_) (Ev.now _), ⟨fun _ hh => ?_, fun _ => by omega⟩⟩
      · rw [api_Arc_dag_CheckCut_1_v1.l0, if_pos (by omega), if_pos (by omega), if_pos (by omega), hf, Option.bind_some, if_pos e]
      · have := (hs.1 hh).1
        simp at e; rw [this e.1] at e; exact absurd e.2 (by simp)
    · obtain ⟨r, hr, hi2⟩ := contains_loop hv o ho d (i + 1) (by omega)
      refine ⟨r, Ev.step (fun k => ?_) hr, hi2.trans ?_⟩
      · rw [api_Arc_dag_CheckCut_1_v1.l0, if_pos (by omega), if_pos (by omega), if_pos (by omega), hf, Option.bind_some, if_neg e, hw]
      · rw [hs]
        refine not_congr ⟨fun h => ⟨fun h1 => ?_, h⟩, fun h => h.2⟩
        simp at e
        exact e h1
def Fin_ (a : Int) (l : List S69) (o : List Bool) : Prop := rdOf false o 0 = true ∧ ¬ rdOf false o (a - 1) = true ∧ Shut l o
theorem dcc_loop {a : Int} {l : List S69} (hv : VG a l) (ns : List Int) (hns : (ns.length : Int) ≤ 1000000) : ∀ (d i : Nat) (o : List Bool), i + d = ns.length → (o.length : Int) = a →
    ∃ b, Ev (fun k => dag_CheckCut.l0 k ns ns ns.length i a l o) b ∧ (b = true ↔ Chn a (if i = 0 then none else some (rd ns ((i : Int) - 1))) (ns.drop i) ∧ Fin_ a l (marks (ns.drop i) o))
  | 0, i, o, h, ho => by
    have h1 := hv.lo
    have h2 := hv.hi
    rw [List.drop_eq_nil_of_le (by omega)]
    have hst : ∀ k, dag_CheckCut.l0 (k + 1) ns ns ns.length i a l o = if 0 < (o.length : Int) then (if rdOf false o 0 = true then (if 0 ≤ a - 1 then (if a - 1 < (o.length : Int) then (if (rdOf false o (a - 1) = true) then (some false) else ((api_Arc_dag_CheckCut_1.f k l o).bind fun t474 => (some (!t474)))) else (none)) else (none)) else (some false)) else (none) := by
      intro k; rw [dag_CheckCut.l0, if_neg (by omega), w64_in (a - 1) (by omega)]
    unfold Fin_
    show ∃ b, Ev _ b ∧ (b = true ↔ True ∧ rdOf false o 0 = true ∧ ¬ rdOf false o (a - 1) = true ∧ Shut l o)
    by_cases e0 : rdOf false o 0 = true
    · by_cases e1 : rdOf false o (a - 1) = true
      · exact ⟨false, Ev.step hst (ev_pos (by omega) (ev_pos e0 (ev_pos (by omega) (ev_pos (by omega) (ev_pos e1 (Ev.now _)))))), by simp [e1]⟩
      · obtain ⟨r, hr, hi⟩ := contains_loop hv o ho l.length 0 (by omega)
        refine ⟨!decide (r ≥ 0), Ev.step hst (ev_pos (by omega) (ev_pos e0 (ev_pos (by omega) (ev_pos (by omega) (ev_neg e1 (Ev.bind (Ev.bind hr (Ev.now _)) (Ev.now _))))))), ?_⟩
        rw [List.drop_zero] at hi
        by_cases e2 : r ≥ 0
        · simp only [e2, decide_true, Bool.not_true, Bool.false_eq_true, false_iff]
          exact fun hh => hi.1 e2 hh.2.2.2
        · simp only [e2, decide_false, Bool.not_false, true_iff]
          exact ⟨trivial, e0, e1, Classical.byContradiction fun hh => e2 (hi.2 hh)⟩
    · exact ⟨false, Ev.step hst (ev_pos (by omega) (ev_neg e0 (Ev.now _))), by simp [e0]⟩
  | d + 1, i, o, h, ho => by
    have hi : i < ns.length := by omega
    have hw := wrap_succ i ns.length hi (by omega)
    rw [rd_at ns i hi]
    have hsome : (if i + 1 = 0 then none else some (rd ns (((i + 1 : Nat) : Int) - 1))) = some (rd ns i) := by
      rw [if_neg (by omega)]; congr 2; omega
    have bad : ∀ (P : Prop), ¬ P → (∀ k, dag_CheckCut.l0 (k + 1) ns ns ns.length i a l o = some false) → ∃ b, Ev (fun k => dag_CheckCut.l0 k ns ns ns.length i a l o) b ∧ (b = true ↔ P) :=
      fun P hP hst => ⟨false, Ev.step (f := fun _ => some false) hst (Ev.now _), by simp [hP]⟩
    by_cases e0 : rd ns i < 0
    · exact bad _ (fun hh => by have := hh.1.1; omega) (fun k => by rw [dag_CheckCut.l0, if_pos (by omega), if_pos (by omega), if_pos (by omega), if_pos e0])
    · by_cases e1 : rd ns i ≥ a
      · exact bad _ (fun hh => by have := hh.1.2.1; omega) (fun k => by rw [dag_CheckCut.l0, if_pos (by omega), if_pos (by omega), if_pos (by omega), if_neg e0, if_pos e1])
      · obtain ⟨b, hb, hbi⟩ := dcc_loop hv ns hns d (i + 1) (o.set (rd ns i).toNat true) (by omega) (by simpa using ho)
        rw [hsome] at hbi
        have go : (∀ q, (if i = 0 then none else some (rd ns ((i : Int) - 1))) = some q → q < rd ns i) → (∀ k, dag_CheckCut.l0 (k + 1) ns ns ns.length i a l o = dag_CheckCut.l0 k ns ns ns.length ((i + 1 : Nat) : Int) a l (o.set (rd ns i).toNat true)) →
            ∃ b, Ev (fun k => dag_CheckCut.l0 k ns ns ns.length i a l o) b ∧ (b = true ↔ Chn a (if i = 0 then none else some (rd ns ((i : Int) - 1))) (rd ns i :: ns.drop (i + 1)) ∧ Fin_ a l (marks (rd ns i :: ns.drop (i + 1)) o)) :=
          fun hp hst => ⟨b, Ev.step hst hb, hbi.trans ⟨fun hh => ⟨⟨by omega, by omega, hp, hh.1⟩, hh.2⟩, fun hh => ⟨hh.1.2.2.2, hh.2⟩⟩⟩
        by_cases e2 : i = 0
        · refine go (fun q hq => by rw [if_pos e2] at hq; cases hq) (fun k => ?_)
          rw [dag_CheckCut.l0, if_pos (by omega), if_pos (by omega), if_pos (by omega), if_neg e0, if_neg e1, if_neg (by omega), if_pos (by omega), if_pos (by omega), hw]
        · by_cases e3 : rd ns i ≤ rd ns ((i : Int) - 1)
          · refine bad _ (fun hh => ?_) (fun k => by rw [dag_CheckCut.l0, if_pos (by omega), if_pos (by omega), if_pos (by omega), if_neg e0, if_neg e1, if_pos (by omega), w64_in _ (by omega), if_pos (by omega), if_pos (by omega), if_pos e3])
            have := hh.1.2.2.1 (rd ns ((i : Int) - 1)) (by rw [if_neg e2])
            omega
          · refine go (fun q hq => by rw [if_neg e2] at hq; injection hq with hq; omega) (fun k => ?_)
            rw [dag_CheckCut.l0, if_pos (by omega), if_pos (by omega), if_pos (by omega), if_neg e0, if_neg e1, if_pos (by omega), w64_in ((i : Int) - 1) (by omega), if_pos (by omega), if_pos (by omega), if_neg e3, if_pos (by omega), if_pos (by omega), hw]
def CC (a : Int) (l : List S69) (ns : List Int) : Prop := Chn a none ns ∧ Fin_ a l (marks ns (List.replicate a.toNat false))
theorem dcc_ev (a : Int) (l : List S69) (ns : List Int) (hns : (ns.length : Int) ≤ 1000000) : ∃ b, Ev (fun k => dag_CheckCut.f k a l ns) b ∧ (b = true ↔ VG a l ∧ CC a l ns) := by
  by_cases h : valid a l = 0
  · have hv := (valid_VG a l).1 h
    have h1 := hv.lo
    have h2 := hv.hi
    obtain ⟨b, hb, hbi⟩ := dcc_loop hv ns hns ns.length 0 (List.replicate a.toNat false) (by omega) (by simp; omega)
    refine ⟨b, Ev.bind (valid_ev a l) (ev_pos h (ev_pos (by omega) (ev_pos (by omega) hb))), hbi.trans ?_⟩
    rw [if_pos rfl, List.drop_zero]
    exact ⟨fun hh => ⟨hv, hh⟩, fun hh => hh.2⟩
  · exact ⟨false, Ev.bind (valid_ev a l) (ev_neg h (Ev.now _)), ⟨fun hb => by simp at hb, fun hh => absurd ((valid_VG a l).2 hh.1) h⟩⟩
theorem rdb_rep (n : Nat) (t : Int) : rdOf false (List.replicate n false) t = false := by
  unfold rdOf
  simp only [List.getD, List.getElem?_replicate]
  split <;> rfl
theorem marks_mem {a : Int} (h1 : 1 ≤ a) {ns : List Int} (h : Chn a none ns) (t : Int) (ht : 0 ≤ t) : rdOf false (marks ns (List.replicate a.toNat false)) t = true ↔ t ∈ ns := by
  rw [marks_at ns none _ (by simp; omega) h t ht, rdb_rep]; simp
/-- Where there is a cut, no way leads to the end. -/
theorem CC.none {a : Int} {l : List S69} {ns : List Int} (hv : VG a l) (h : CC a l ns) : ¬ Rch l (a - 1) 0 := by
  intro hr
  have h1 := hv.lo
  exact h.2.2.1 (hr.along (fun n => rdOf false (marks ns (List.replicate a.toNat false)) n = true) (fun x hx hp => h.2.2.2 x hx hp) h.2.1)
end Go.Proofs.Ytanbffoilianhaa.Pure
