/- The plain law behind TableMeaning: about the printed functions alone, no memory and no Go in it. -/
import Derived.Test.YthcfmdkhkikbcaaPureW2
import Derived.Test.YthcfmdkhkikbcaaT8
import Derived.Test.YthcfmdkhkikbcaaT30
import Derived.Test.YthcfmdkhkikbcaaT31
import Derived.Test.YthcfmdkhkikbcaaT32
namespace Go.Proofs.Ythcfmdkhkikbcaa.Pure
open Go.RowKit Go.Proofs.YthcfmdkhkikbcaaW.PrintWords Go.Proofs.Ythcfmdkhkikbcaa.T
set_option linter.unusedVariables false
set_option linter.unusedSimpArgs false
/-! ### TableMeaning -/
/-! Made -/
theorem made_rows (vs : List Int) (hc : Chn 24 none vs) (hl : vs.length ≤ 6) (p q : Int) : ∀ (d r : Nat) (acc : List Int), r + d = 2 ^ vs.length → acc.length ≤ r → Chn ((2 ^ vs.length : Nat) : Int) none acc → (∀ y, y ∈ acc → y < r) →
    ∃ rs, Ev (fun k => ancepsref38_Made.l1 k r p q vs acc) (vs, rs) ∧ VT vs rs
  | 0, r, acc, h, ha, hch, hlt => by
    have hs1 := shl1 vs.length (by omega)
    exact ⟨acc, Ev.step (f := fun _ => some (vs, acc)) (fun k => by rw [ancepsref38_Made.l1, hs1, if_neg (by omega)]) (Ev.now _), by omega, hc, hch⟩
  | d + 1, r, acc, h, ha, hch, hlt => by
    have hs1 := shl1 vs.length (by omega)
    have hp := pow10 (n := vs.length) (by omega)
    have hw : wrap64 ((r : Int) + 1) = ((r + 1 : Nat) : Int) := by rw [w64_in _ (by omega)]; omega
    by_cases e : Int.tmod (shr .u64 q r) 2 = 1
    · obtain ⟨rs, h1, h2⟩ := made_rows vs hc hl p q d (r + 1) (acc ++ [(r : Int)]) (by omega) (by simp; omega) (chn_snoc (by omega) (by omega) hch hlt (fun q hq => by cases hq)) (fun y hy => by
        rcases List.mem_append.1 hy with hy | hy
        · have := hlt y hy; omega
        · rw [List.mem_singleton.1 hy]; omega)
      exact ⟨rs, Ev.step (fun k => by rw [ancepsref38_Made.l1, hs1, if_pos (by omega), if_pos (by omega), if_pos e, if_pos (by omega), hw]) h1, h2⟩
    · obtain ⟨rs, h1, h2⟩ := made_rows vs hc hl p q d (r + 1) acc (by omega) (by omega) hch (fun y hy => by have := hlt y hy; omega)
      exact ⟨rs, Ev.step (fun k => by rw [ancepsref38_Made.l1, hs1, if_pos (by omega), if_pos (by omega), if_neg e, hw]) h1, h2⟩
theorem made_vars (p q : Int) : ∀ (d i : Nat) (acc : List Int), i + d = 24 → acc.length ≤ 6 → Chn 24 none acc → (∀ y, y ∈ acc → y < i) →
    ∃ vs rs, Ev (fun k => ancepsref38_Made.l0 k i p q acc) (vs, rs) ∧ VT vs rs ∧ vs.length ≤ 6
  | d, i, acc, h, ha, hch, hlt => by
    obtain ⟨rs, h1, h2⟩ := made_rows acc hch ha p q (2 ^ acc.length) 0 [] (by omega) (by simp) trivial (fun y hy => by simp at hy)
    have hend : Ev (fun k => ancepsref38_Made.j1 k i false p q acc) (acc, rs) := Ev.step (fun k => by rw [ancepsref38_Made.j1, if_neg (by simp)]; rfl) h1
    cases d with
    | zero => exact ⟨acc, rs, Ev.step (fun k => by rw [ancepsref38_Made.l0, if_neg (by omega)]) hend, h2, ha⟩
    | succ d =>
      have hw : wrap64 ((i : Int) + 1) = ((i + 1 : Nat) : Int) := by rw [w64_in _ (by omega)]; omega
      by_cases h6 : (acc.length : Int) < 6
      · have hgo : ∀ vs rs, Ev (fun k => ancepsref38_Made.j1 k i true p q acc) (vs, rs) → Ev (fun k => ancepsref38_Made.l0 k i p q acc) (vs, rs) := fun vs rs hh => Ev.step (fun k => by rw [ancepsref38_Made.l0, if_pos (by omega), decide_eq_true h6]) hh
        by_cases e : Int.tmod (shr .u32 p i) 2 = 1
        · obtain ⟨vs, rs, h3, h4⟩ := made_vars p q d (i + 1) (acc ++ [(i : Int)]) (by omega) (by simp; omega) (chn_snoc (by omega) (by omega) hch hlt (fun q hq => by cases hq)) (fun y hy => by
            rcases List.mem_append.1 hy with hy | hy
            · have := hlt y hy; omega
            · rw [List.mem_singleton.1 hy]; omega)
          exact ⟨vs, rs, hgo vs rs (Ev.step (fun k => by rw [ancepsref38_Made.j1, if_pos rfl, if_pos (by omega), if_pos e, if_pos (by omega), hw]) h3), h4⟩
        · obtain ⟨vs, rs, h3, h4⟩ := made_vars p q d (i + 1) acc (by omega) ha hch (fun y hy => by have := hlt y hy; omega)
          exact ⟨vs, rs, hgo vs rs (Ev.step (fun k => by rw [ancepsref38_Made.j1, if_pos rfl, if_pos (by omega), if_neg e, hw]) h3), h4⟩
      · exact ⟨acc, rs, Ev.step (fun k => by rw [ancepsref38_Made.l0, if_pos (by omega), decide_eq_false h6]) hend, h2, ha⟩
theorem made_ev (p q : Int) : ∃ vs rs, Ev (fun k => ancepsref38_Made.f k p q) (vs, rs) ∧ VT vs rs ∧ vs.length ≤ 6 := made_vars p q 24 0 [] (by omega) (by simp) trivial (fun y hy => by simp at hy)
def hass (vs rs : List Int) (a : Int) : Bool × Int := if valid vs rs = 0 then if a < 0 then (false, 6) else if a ≥ 16777216 then (false, 6) else (hs vs rs a.toNat, 0) else (false, valid vs rs)
theorem dhas_ev (vs rs : List Int) (hl : (vs.length : Int) ≤ 9223372036854775807) (hr : (rs.length : Int) ≤ 9223372036854775807) (a : Int) : Ev (fun k => table_Has.f k vs rs a) (hass vs rs a) := by
  refine Ev.bind (valid_ev vs rs hl hr) (ev_ite (fun h => ev_ite (fun _ => Ev.now _) (fun h0 => ev_ite (fun _ => Ev.now _) (fun h1 => ?_))) (fun _ => Ev.now _))
  have hv := (valid_VT vs rs).1 h
  have h60 : (2 : Nat) ^ 60 = 1152921504606846976 := by decide
  have := has_ev hv a.toNat (by omega)
  rw [← nat_of (by omega)] at this
  exact Ev.bind this (Ev.now _)
theorem cmb_hs {a b c d : List Int} (h1 : VT a b) (h2 : VT c d) (t : Bool → Bool → Bool) (x : Nat) : hs (all2 a c) (ovr (all2 a c) (fun y => t (hs a b y) (hs c d y))) x = t (hs a b x) (hs c d x) := by
  have hall := all2_chn h1.vars h2.vars
  rw [hs_ovr hall.1]
  rw [hs_agree a b (fun w hw => asg_at hall.1 x ((hall.2 w).2 (.inl hw))), hs_agree c d (fun w hw => asg_at hall.1 x ((hall.2 w).2 (.inr hw)))]
theorem m1_ev {vs rs : List Int} (h : VT vs rs) (x : Nat) (hx : x < 2 ^ 24) : Ev (fun k => ancepslaw38_TableMeaning_1_v1.f k vs rs (x : Int)) (hs vs rs x) := by
  have hl := h.len
  have hr := h.rows_len
  have h24 : (2 : Nat) ^ 24 = 16777216 := by decide
  have e : hass vs rs (x : Int) = (hs vs rs x, 0) := by
    unfold hass
    rw [if_pos ((valid_VT _ _).2 h), if_neg (by omega), if_neg (by omega), Int.toNat_natCast]
  have p := dhas_ev vs rs (by omega) (by omega) (x : Int)
  rw [e] at p
  exact Ev.bind p (ev_pos rfl (Ev.now _))
theorem tableMeaning_ev (p q p2 q2 x2 : Int) (h2 : 0 ≤ x2) (h3 : x2 < 4294967296) : Ev (fun k => ancepslaw38_TableMeaning.f k p q p2 q2 x2) true := by
  obtain ⟨a, b, hm1, v1, l1⟩ := made_ev p q
  obtain ⟨c, d, hm2, v2, l2⟩ := made_ev p2 q2
  have r1 := v1.rows_len
  have r2 := v2.rows_len
  have h24 : (2 : Nat) ^ 24 = 16777216 := by decide
  have hx8 : wrap64 (Int.tmod x2 16777216) = (((x2 % 16777216).toNat : Nat) : Int) := by
    rw [Int.tmod_eq_emod_of_nonneg h2, w64_in _ (by omega)]
    omega
  have hx : (x2 % 16777216).toNat < 2 ^ 24 := by omega
  have val1 := (valid_VT a b).2 v1
  have val2 := (valid_VT c d).2 v2
  have hj := join_ev a b c d (by omega) (by omega) (by omega) (by omega)
  have hu := union_ev a b c d (by omega) (by omega) (by omega) (by omega)
  have hm := minus_ev a b c d (by omega) (by omega) (by omega) (by omega)
  unfold cmb at hj hu hm
  rw [if_pos val1, if_pos val2] at hj hu hm
  refine Ev.bind awake_ev (ev_pos rfl (Ev.bind hm1 (Ev.bind hm2 ?_)))
  rw [hx8]
  generalize (x2 % 16777216).toNat = x at hx ⊢
  by_cases h10 : ((all2 a c).length : Int) > 10
  · rw [if_pos h10] at hj hu hm
    refine Ev.bind hj (Ev.bind hu (Ev.bind hm (ev_neg (by decide) ?_)))
    refine Ev.step (fun k => by rw [ancepslaw38_TableMeaning.j0, if_pos rfl, if_pos rfl, if_pos rfl, if_pos rfl]) (Ev.bind (both_ev v1.vars v2.vars (by omega) (by omega)) ?_)
    rw [decide_eq_true h10]
    exact Ev.now _
  · rw [if_neg h10] at hj hu hm
    have hall := all2_chn v1.vars v2.vars
    have vt : ∀ t : Nat → Bool, VT (all2 a c) (ovr (all2 a c) t) := fun t => ⟨by omega, hall.1, ovr_chn _ _⟩
    have m1 := m1_ev (vt _) x hx (rs := ovr (all2 a c) (fun y => hs a b y && hs c d y))
    have m2 := m1_ev (vt _) x hx (rs := ovr (all2 a c) (fun y => hs a b y || hs c d y))
    have m3 := m1_ev (vt _) x hx (rs := ovr (all2 a c) (fun y => hs a b y && !hs c d y))
    rw [cmb_hs v1 v2 (fun p q => p && q)] at m1
    rw [cmb_hs v1 v2 (fun p q => p || q)] at m2
    rw [cmb_hs v1 v2 (fun p q => p && !q)] at m3
    have n1 := rholds_ev v1 x
    have n2 := rholds_ev v2 x
    generalize hs a b x = P at m1 m2 m3 n1
    generalize hs c d x = Q at m1 m2 m3 n2
    refine Ev.bind hj (Ev.bind hu (Ev.bind hm (ev_pos rfl (ev_pos rfl ?_))))
    refine Ev.step (fun k => by rw [show ((0 : Int) != 0) = false from rfl, ancepslaw38_TableMeaning.j0, if_neg (by simp)]) (Ev.bind n1 (Ev.bind n2 (Ev.bind m1 ?_)))
    cases P
    · refine ev_neg (by decide) (ev_pos rfl (Ev.bind m2 (ev_pos (by cases Q <;> rfl) (Ev.bind m3 ?_))))
      exact Ev.now _
    · refine ev_pos rfl (ev_pos (by cases Q <;> rfl) (Ev.bind m2 (ev_pos rfl (Ev.bind m3 ?_))))
      cases Q
      · exact Ev.now _
      · exact Ev.now _
theorem u32_in {n : Int} (h : (Lit.int .u32 n).wf = true) : 0 ≤ n ∧ n < 4294967296 := by
  have h2 : IntKind.u32.min ≤ n ∧ n ≤ IntKind.u32.max := by simpa [Lit.wf] using h
  have e1 : IntKind.u32.min = 0 := by decide
  have e2 : IntKind.u32.max = 4294967295 := by decide
  omega
theorem TableMeaning (a0_0 : Int) (a0_1 : Int) (a1_0 : Int) (a1_1 : Int) (a2 : Int) (w_a0_0 : (Lit.int .u32 a0_0).wf = true) (w_a0_1 : (Lit.int .u64 a0_1).wf = true) (w_a1_0 : (Lit.int .u32 a1_0).wf = true) (w_a1_1 : (Lit.int .u64 a1_1).wf = true) (w_a2 : (Lit.int .u32 a2).wf = true) : ∃ k, T.ancepslaw38_TableMeaning.f k a0_0 a0_1 a1_0 a1_1 a2 = some true := ev_rounds (tableMeaning_ev a0_0 a0_1 a1_0 a1_1 a2 (u32_in w_a2).1 (u32_in w_a2).2)
end Go.Proofs.Ythcfmdkhkikbcaa.Pure
