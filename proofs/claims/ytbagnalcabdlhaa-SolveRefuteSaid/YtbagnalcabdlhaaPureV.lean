/- The plain law behind V: about the printed functions alone, no memory and no Go in it. -/
import Derived.Test.YtbagnalcabdlhaaPureU
import Derived.Test.YtbagnalcabdlhaaPureRS
namespace Go.Proofs.Ytbagnalcabdlhaa.Pure
open Go.RowKit Go.Proofs.YtbagnalcabdlhaaW.PrintWords Go.Proofs.Ytbagnalcabdlhaa.S
set_option linter.unusedVariables false
set_option linter.unusedSimpArgs false
/-! ### The standard refutation is right -/
theorem ffl_spec (C V : Nat) : ∀ (l : List S61) (i : Nat), 0 ≤ ffl C V l i → ∃ j, j < l.length ∧ ffl C V l i = ((i + j : Nat) : Int) ∧ fl (rd_T61 l (j : Int)) C V = true
  | [], i, h => by simp [ffl] at h
  | t :: ts, i, h => by
    rw [ffl] at h ⊢
    by_cases e : fl t C V = true
    · rw [if_pos e]
      exact ⟨0, by simp, rfl, e⟩
    · rw [if_neg e] at h ⊢
      obtain ⟨j, h1, h2, h3⟩ := ffl_spec C V ts (i + 1) h
      refine ⟨j + 1, by simpa using h1, by rw [h2]; omega, ?_⟩
      rw [show rd_T61 (t :: ts) ((j + 1 : Nat) : Int) = rd_T61 ts (j : Int) by simp [rd_T61, List.getD]]
      exact h3
namespace Tr
def ok (L : Nat) : Tr → Prop
  | leaf t => 0 ≤ t ∧ t < (L : Int)
  | node v a b => (0 ≤ v ∧ v < 24) ∧ a.ok L ∧ b.ok L
end Tr
theorem tree_ok (l : List S61) : ∀ (vs : List Int) (C V : Nat), (∀ v, v ∈ vs → 0 ≤ v ∧ v < 24) → (tree l vs C V).full = true → (tree l vs C V).ok l.length := by
  have lfk : ∀ C V, 0 ≤ ffl C V l 0 → (Tr.leaf (ffl C V l 0)).ok l.length := fun C V h => by
    obtain ⟨j, h1, h2, _⟩ := ffl_spec C V l 0 h
    exact ⟨h, by rw [h2]; omega⟩
  intro vs
  induction vs with
  | nil => exact fun C V _ hf => lfk C V (by simpa [tree, Tr.full] using hf)
  | cons v vs ih =>
    intro C V hv hf
    rw [tree] at hf ⊢
    by_cases h : 0 ≤ ffl C V l 0
    · rw [if_pos h]; exact lfk C V h
    · rw [if_neg h] at hf ⊢
      simp only [Tr.full, Bool.and_eq_true] at hf
      exact ⟨hv v (.head _), ih _ _ (fun w hw => hv w (.tail _ hw)) hf.1, ih _ _ (fun w hw => hv w (.tail _ hw)) hf.2⟩
def upto (M : List Bool) (lo hi : Nat) : List Bool := M.mapIdx fun j b => b || (decide (lo < j) && decide (j < hi))
theorem upto_len (M : List Bool) (lo hi : Nat) : (upto M lo hi).length = M.length := by simp [upto]
theorem bl_ext {M M' : List Bool} (hl : M.length = M'.length) (h : ∀ j : Nat, j < M.length → rdOf false M (j : Int) = rdOf false M' (j : Int)) : M = M' := by
  apply List.ext_getElem hl
  intro j h1 h2
  have := h j h1
  simpa [rdOf, List.getD, List.getElem?_eq_getElem h1, List.getElem?_eq_getElem h2] using this
theorem upto_at (M : List Bool) (lo hi j : Nat) (hj : j < M.length) : rdOf false (upto M lo hi) (j : Int) = (rdOf false M (j : Int) || (decide (lo < j) && decide (j < hi))) := by
  have : j < (upto M lo hi).length := by rw [upto_len]; exact hj
  simp [rdOf, List.getD, upto, hj]
theorem std_shp (L n : Nat) : ∀ (T : Tr) (p : Nat) (M : List Bool) (suf : List S35), T.ok L → M.length = n → p + T.sz ≤ n → (∀ j : Nat, p < j → j < p + T.sz → rdOf false M (j : Int) = false) →
    shp L n (T.nod p ++ suf) p M = shp L n suf (p + T.sz) (upto M p (p + T.sz))
  | .leaf t, p, M, suf, ho, hM, hp, hu => by
    show shp L n (⟨-1, 0, 0, t⟩ :: suf) p M = _
    rw [shp, if_pos rfl, if_pos ((lf_iff _ _).2 ⟨rfl, rfl, ho.1, ho.2⟩)]
    simp only [Tr.sz]
    congr 1
    refine bl_ext (by rw [upto_len]) (fun j hj => ?_)
    rw [upto_at _ _ _ _ hj]
    rw [show (decide (p < j) && decide (j < p + 1)) = false by simp; omega, Bool.or_false]
  | .node v a b, p, M, suf, ho, hM, hp, hu => by
    obtain ⟨hv, ha, hb⟩ := ho
    have sa := a.sz_pos
    have sb := b.sz_pos
    simp only [Tr.sz] at hp hu ⊢
    show shp L n (⟨v, ((p + 1 : Nat) : Int), ((p + 1 + a.sz : Nat) : Int), 0⟩ :: ((a.nod (p + 1) ++ b.nod (p + 1 + a.sz)) ++ suf)) p M = _
    have h1 := hu (p + 1) (by omega) (by omega)
    have h2 : rdOf false (M.set (p + 1) true) ((p + 1 + a.sz : Nat) : Int) = false := by
      rw [rdb_set _ _ _ _ (by omega), if_neg (by omega)]
      exact hu _ (by omega) (by omega)
    rw [shp, if_neg (by show ¬ v = -1; omega), if_pos ((nd_iff _).2 ⟨hv.1, hv.2, rfl⟩)]
    have hm : mrk n p [((p + 1 : Nat) : Int), ((p + 1 + a.sz : Nat) : Int)] M = some ((M.set (p + 1) true).set (p + 1 + a.sz) true) := by
      rw [mrk, if_pos ⟨by omega, by omega, h1⟩, Int.toNat_natCast, mrk, if_pos ⟨by omega, by omega, h2⟩, Int.toNat_natCast, mrk]
    show (mrk n p [((p + 1 : Nat) : Int), ((p + 1 + a.sz : Nat) : Int)] M).bind _ = _
    rw [hm, Option.bind_some, List.append_assoc]
    have at1 : ∀ j : Nat, rdOf false ((M.set (p + 1) true).set (p + 1 + a.sz) true) (j : Int) = if p + 1 + a.sz = j then true else if p + 1 = j then true else rdOf false M (j : Int) := fun j => by
      rw [rdb_set _ _ _ _ (by rw [List.length_set]; omega), rdb_set _ _ _ _ (by omega)]
    rw [std_shp L n a (p + 1) _ _ ha (by rw [List.length_set, List.length_set]; exact hM) (by omega) (fun j k1 k2 => by
      rw [at1, if_neg (by omega), if_neg (by omega)]; exact hu j (by omega) (by omega))]
    rw [std_shp L n b (p + 1 + a.sz) _ _ hb (by rw [upto_len, List.length_set, List.length_set]; exact hM) (by omega) (fun j k1 k2 => by
      rw [upto_at _ _ _ _ (by rw [List.length_set, List.length_set]; omega), at1, if_neg (by omega), if_neg (by omega), hu j (by omega) (by omega)]; simp; omega)]
    rw [show p + (1 + a.sz + b.sz) = p + 1 + a.sz + b.sz by omega]
    congr 1
    refine bl_ext (by simp only [upto_len, List.length_set]) (fun j hj => ?_)
    simp only [upto_len, List.length_set] at hj
    rw [upto_at _ _ _ _ (by simp only [upto_len, List.length_set]; exact hj), upto_at _ _ _ _ (by simp only [List.length_set]; exact hj), at1, upto_at _ _ _ _ hj]
    by_cases e1 : p + 1 + a.sz = j
    · rw [if_pos e1]
      simp; right; omega
    · rw [if_neg e1]
      by_cases e2 : p + 1 = j
      · rw [if_pos e2]
        simp; right; omega
      · rw [if_neg e2]
        cases rdOf false M (j : Int)
        · simp only [Bool.false_or]
          rw [Bool.eq_iff_iff]
          simp
          omega
        · simp
/-- A tree's nodes lie in a list of nodes. -/
def Lies (N : List S35) (T : Tr) (p : Nat) : Prop := ∃ suf, N.drop p = T.nod p ++ suf
theorem Lies.lt {N : List S35} {T : Tr} {p : Nat} (h : Lies N T p) : p + T.sz ≤ N.length := by
  obtain ⟨suf, h⟩ := h
  have := congrArg List.length h
  rw [List.length_drop, List.length_append, T.nod_len] at this
  have := T.sz_pos
  omega
theorem Lies.rd {N : List S35} {T : Tr} {p : Nat} (h : Lies N T p) : (∀ t, T = .leaf t → rd_T35 N p = ⟨-1, 0, 0, t⟩) ∧ (∀ v a b, T = .node v a b → rd_T35 N p = ⟨v, ((p + 1 : Nat) : Int), ((p + 1 + a.sz : Nat) : Int), 0⟩ ∧ Lies N a (p + 1) ∧ Lies N b (p + 1 + a.sz)) := by
  have hl := h.lt
  have hs := T.sz_pos
  obtain ⟨suf, h⟩ := h
  rw [rdN_at N p (by omega)] at h
  constructor
  · rintro t rfl
    exact (List.cons.inj h).1
  · rintro v a b rfl
    obtain ⟨h1, h2⟩ := List.cons.inj h
    change _ = (a.nod (p + 1) ++ b.nod (p + 1 + a.sz)) ++ suf at h2
    rw [List.append_assoc] at h2
    refine ⟨h1, ⟨_, h2⟩, ⟨suf, ?_⟩⟩
    have := congrArg (List.drop a.sz) h2
    have e : (a.nod (p + 1)).drop a.sz = [] := List.drop_eq_nil_of_le (by rw [a.nod_len]; omega)
    rw [List.drop_drop, List.drop_append_of_le_length (by rw [a.nod_len]; omega), e, List.nil_append] at this
    exact this
theorem std_vis {l : List S61} {N : List S35} : ∀ (vs : List Int) (k C V p : Nat) (q : Option Int), Chn 24 q vs → Free C V vs → (tree l vs C V).full = true → Lies N (tree l vs C V) p → N.length ≤ p + k → (vis l N k p C V).isSome = true := by
  have hleaf : ∀ (k C V p : Nat), Lies N (.leaf (ffl C V l 0)) p → 0 ≤ ffl C V l 0 → (vis l N (k + 1) p C V).isSome = true := fun k C V p h hf => by
    have hl := h.lt
    simp only [Tr.sz] at hl
    obtain ⟨j, h1, h2, h3⟩ := ffl_spec C V l 0 hf
    rw [Nat.zero_add] at h2
    rw [vis, if_pos (by omega), h.rd.1 _ rfl, if_pos rfl, if_pos ⟨(lf_iff _ _).2 ⟨rfl, rfl, hf, by show ffl C V l 0 < _; rw [h2]; omega⟩, by show fl (rd_T61 l (ffl C V l 0)) C V = true; rw [h2]; exact h3⟩]
    rfl
  intro vs
  induction vs with
  | nil =>
    intro k C V p q hc hfr hf h hk
    have hl := h.lt
    simp only [tree, Tr.sz] at hl
    obtain ⟨k, rfl⟩ : ∃ k', k = k' + 1 := ⟨k - 1, by omega⟩
    exact hleaf k C V p h (by simpa [tree, Tr.full] using hf)
  | cons v vs ih =>
    intro k C V p q hc hfr hf h hk
    have hl := h.lt
    have hs := (tree l (v :: vs) C V).sz_pos
    obtain ⟨k, rfl⟩ : ∃ k', k = k' + 1 := ⟨k - 1, by omega⟩
    by_cases hf' : 0 ≤ ffl C V l 0
    · rw [tree, if_pos hf'] at h
      exact hleaf k C V p h hf'
    · rw [tree, if_neg hf'] at h hf
      simp only [Tr.full, Bool.and_eq_true] at hf
      have hall : ∀ w, w ∈ v :: vs → 0 ≤ w := fun w hw => (hc.mem w hw).1
      obtain ⟨h1, h2, h3⟩ := h.rd.2 _ _ _ rfl
      have v1 := ih k _ _ _ _ hc.2.2.2 (hfr.step hc hall false) hf.1 h2 (by omega)
      have v2 := ih k _ _ _ _ hc.2.2.2 (hfr.step hc hall true) hf.2 h3 (by omega)
      obtain ⟨x1, e1⟩ := Option.isSome_iff_exists.1 v1
      obtain ⟨x2, e2⟩ := Option.isSome_iff_exists.1 v2
      rw [vis, if_pos (by omega), h1, if_neg (by show ¬ v = -1; have := hc.1; omega), if_pos ⟨(nd_iff _).2 ⟨hc.1, hc.2.1, rfl⟩, by show (p : Int) < ((p + 1 : Nat) : Int); omega, by show (p : Int) < ((p + 1 + _ : Nat) : Int); omega, hfr.2 v (.head _)⟩]
      simp only [Int.toNat_natCast]
      rw [e1, e2]
      rfl
theorem std_chk {l : List S61} (h : VS l) (hf : (tree l (occ l) 0 0).full = true) (hz : (tree l (occ l) 0 0).sz ≤ 2000) : chk1 l ((tree l (occ l) 0 0).nod 0) = true := by
  have hn := (tree l (occ l) 0 0).nod_len 0
  have hs := (tree l (occ l) 0 0).sz_pos
  have hok := tree_ok l (occ l) 0 0 h.occ' hf
  unfold chk1
  rw [if_pos ((sysv_VS l).2 h), std_vis (occ l) _ 0 0 0 none h.occ.1 ⟨fun j hj => by simp at hj, fun v _ => by simp⟩ hf ⟨[], by simp⟩ (by omega), Bool.and_true]
  unfold shpB
  rw [hn, decide_eq_true (by omega), decide_eq_true (by omega)]
  have e := std_shp l.length (tree l (occ l) 0 0).sz (tree l (occ l) 0 0) 0 (List.replicate (tree l (occ l) 0 0).sz false) [] hok (by simp) (by omega) (fun j h1 h2 => by rw [rdOf, List.getD, Int.toNat_natCast, List.getElem?_replicate]; split <;> rfl)
  rw [List.append_nil] at e
  rw [e, shp]
  simp only [Bool.and_self, Bool.true_and, fin]
  rw [List.all_eq_true]
  intro x hx
  obtain ⟨j, hj, e2⟩ := List.getElem_of_mem hx
  rw [List.length_drop, upto_len, List.length_replicate] at hj
  rw [List.getElem_drop] at e2
  have := upto_at (List.replicate (tree l (occ l) 0 0).sz false) 0 (0 + (tree l (occ l) 0 0).sz) (1 + j) (by simp; omega)
  have h3 : 1 + j < (upto (List.replicate (tree l (occ l) 0 0).sz false) 0 (0 + (tree l (occ l) 0 0).sz)).length := by rw [upto_len]; simp; omega
  rw [rdOf, Int.toNat_natCast, List.getD, List.getElem?_eq_getElem h3, Option.getD_some, e2] at this
  rw [this]
  simp
  omega
/-! ### Same, and the law -/
theorem same_loop (N : List S35) (hn : N.length ≤ 3000) : ∀ (d i : Nat), i + d = N.length → Ev (fun k => ancepsref40_Same.l0 k i N N) true
  | 0, i, h => by
    refine Ev.step (fun k => by rw [ancepsref40_Same.l0, if_neg (by omega)]) ?_
    exact Ev.now _
  | d + 1, i, h => by
    have hi : i < N.length := by omega
    have hw := wrap_succ i N.length hi (by omega)
    refine Ev.step (fun k => by rw [ancepsref40_Same.l0, if_pos (by omega), if_pos (by omega), if_pos (by omega), hw]) ?_
    refine ev_neg (by simp) ?_
    exact same_loop N hn d (i + 1) (by omega)
theorem nsame_ev (N : List S35) (hn : N.length ≤ 3000) : Ev (fun k => ancepsref40_Same.f k N N) true := ev_pos rfl (same_loop N hn N.length 0 (by omega))
/-- What Refute answers. -/
def rfu (l : List S61) : List S35 × Int := if sysv l = 0 then (if SS l = [] then (if (tree l (occ l) 0 0).sz ≤ 2000 then ((tree l (occ l) 0 0).nod 0, 0) else ([], 3)) else ([], 11)) else ([], sysv l)
theorem free0 (l : List S61) : Free 0 0 (occ l) := ⟨fun j hj => by simp at hj, fun v _ => by simp⟩
theorem full0 {l : List S61} (h : VS l) (hn : SS l = []) : (tree l (occ l) 0 0).full = true := full_of h hn (occ l) 0 0 (fun w hw => .inr hw) (fun v hv => hv) (fun j hj => by simp at hj)
theorem drefute_ev (l : List S61) (hs : Sm l) (hl : l.length ≤ 1000) : Ev (fun k => solve_Refute.f k l) (rfu l) := by
  refine Ev.bind (svalid_ev l hs hl) ?_
  unfold rfu
  refine ev_ite (fun h => ?_) (fun h => Ev.now _)
  have hv := (sysv_VS l).1 h
  refine Ev.bind (occ_ev l hs hl) (Ev.bind (allsearch_ev hv) ?_)
  by_cases e : SS l = []
  · rw [if_pos e]
    refine ev_pos (by rw [e]; rfl) ?_
    obtain ⟨q, e1, e2, e3⟩ := split_ev hv (occ l) 0 0 [] (by decide) (by decide) hv.occ' (full0 hv e) (by simp)
    refine Ev.bind e1 (ev_eq (Ev.now _) ?_)
    unfold solve_Refute.of
    rw [List.length_nil, Nat.zero_add] at e2
    by_cases hz : (tree l (occ l) 0 0).sz ≤ 2000
    · rw [decide_eq_true hz] at e2
      rw [if_pos e2, if_pos hz, e3 e2]; rfl
    · rw [decide_eq_false hz] at e2
      rw [if_neg (by rw [e2]; decide), if_neg hz]
  · rw [if_neg e]
    refine ev_neg (by rw [Int.natCast_eq_zero, List.length_eq_zero_iff]; exact e) ?_
    exact Ev.now _
theorem rrefute_ev (l : List S61) (hs : Sm l) (hl : l.length ≤ 1000) : Ev (fun k => ancepsref40_Refute.f k l) (rfu l) := by
  refine Ev.bind (rsvalid_ev l hs hl) ?_
  unfold rfu
  refine ev_ite (fun h => ?_) (fun h => Ev.now _)
  have hv := (sysv_VS l).1 h
  refine Ev.bind (rsol_ev hv hs 1 (by decide)) ?_
  by_cases e : SS l = []
  · rw [if_pos e]
    refine ev_neg (by rw [e]; decide) ?_
    refine Ev.bind (rvars_ev hv hs) ?_
    obtain ⟨r, e1, _, _, e4, e5⟩ := rsplit_ev hv (occ l) 0 0 none [] (by decide) (by decide) (free0 l) hv.occ.1 (full0 hv e) (by simp)
    rw [List.length_nil, Nat.zero_add] at e4 e5
    refine Ev.bind e1 ?_
    by_cases hz : (tree l (occ l) 0 0).sz ≤ 2000
    · rw [if_pos hz]
      have := e4 hz
      rw [List.nil_append] at this
      rw [this]
      refine ev_neg (by rw [Tr.nod_len]; omega) ?_
      exact Ev.now _
    · rw [if_neg hz]
      refine ev_pos (by have := e5 (by omega); omega) ?_
      exact Ev.now _
  · rw [if_neg e]
    refine ev_pos ?_ (Ev.now _)
    cases hS : SS l with
    | nil => exact absurd hS e
    | cons x xs => simp
theorem solveRefute_ev (l : List S61) : Ev (fun k => ancepslaw40_SolveRefute.f k l) true := by
  unfold ancepslaw40_SolveRefute.f
  refine Ev.bind awake_ev (ev_pos rfl ?_)
  obtain ⟨b, hb, hb2⟩ := sfew_ev l
  refine Ev.bind hb ?_
  refine Ev.step (fun k => by rw [ancepslaw40_SolveRefute.j0]) ?_
  cases b
  · exact ev_pos rfl awake_bind
  · obtain ⟨hs, h18⟩ := hb2 rfl
    refine ev_neg (by decide) ?_
    refine Ev.bind (drefute_ev l hs (by omega)) (Ev.bind (rrefute_ev l hs (by omega)) (ev_pos rfl ?_))
    have hlen : (rfu l).1.length ≤ 3000 := by
      unfold rfu
      split
      · split
        · split
          · rw [Tr.nod_len]; omega
          · simp
        · simp
      · simp
    refine Ev.bind (nsame_ev _ hlen) (ev_pos rfl ?_)
    by_cases e : (rfu l).2 = 0
    · refine ev_pos e ?_
      refine Ev.bind (scheck_ev l hs (by omega) _) (ev_eq (Ev.now _) ?_)
      unfold rfu at e ⊢
      by_cases h : sysv l = 0
      · rw [if_pos h] at e ⊢
        by_cases h1 : SS l = []
        · rw [if_pos h1] at e ⊢
          by_cases h2 : (tree l (occ l) 0 0).sz ≤ 2000
          · rw [if_pos h2]
            exact std_chk ((sysv_VS l).1 h) (full0 ((sysv_VS l).1 h) h1) h2
          · rw [if_neg h2] at e; cases e
        · rw [if_neg h1] at e; cases e
      · rw [if_neg h] at e
        exact absurd e h
    · refine ev_neg e ?_
      exact Ev.now _
end Go.Proofs.Ytbagnalcabdlhaa.Pure
