/- The plain law behind C: about the printed functions alone, no memory and no Go in it. -/
import Derived.Test.YthcfmdkhkikbcaaPureB
namespace Go.Proofs.Ythcfmdkhkikbcaa.Pure
open Go.RowKit Go.Proofs.YthcfmdkhkikbcaaW.PrintWords Go.Proofs.Ythcfmdkhkikbcaa.T
set_option linter.unusedVariables false
set_option linter.unusedSimpArgs false
/-! ### What rows and assignments mean -/
theorem row_agree (vs : List Int) {x y : Nat} (h : ∀ w, w ∈ vs → x.testBit w.toNat = y.testBit w.toNat) : row vs x = row vs y := by
  apply Nat.eq_of_testBit_eq
  intro j
  rw [Bool.eq_iff_iff, row_bit, row_bit]
  constructor
  · rintro ⟨v, hv, hb⟩; exact ⟨v, hv, by rw [← h v (List.mem_of_getElem? hv)]; exact hb⟩
  · rintro ⟨v, hv, hb⟩; exact ⟨v, hv, by rw [h v (List.mem_of_getElem? hv)]; exact hb⟩
theorem asg_at {hi : Int} {vs : List Int} (h : Chn hi none vs) (x : Nat) {w : Int} (hw : w ∈ vs) : (asg vs (row vs x)).testBit w.toNat = x.testBit w.toNat := by
  rw [Bool.eq_iff_iff, asg_bit h]
  obtain ⟨i, hi2⟩ := List.getElem?_of_mem hw
  constructor
  · rintro ⟨m, v, hv, e, hb⟩
    obtain ⟨u, hu, hb⟩ := (row_bit vs x m).1 hb
    rw [hv] at hu
    injection hu with hu
    rw [e, hu]; exact hb
  · intro hb
    exact ⟨i, w, hi2, rfl, (row_bit vs x i).2 ⟨w, hi2, hb⟩⟩
theorem asg_out {hi : Int} {vs : List Int} (h : Chn hi none vs) (r : Nat) {v : Int} (hv : 0 ≤ v) (hn : v ∉ vs) : (asg vs r).testBit v.toNat = false := by
  rw [Bool.eq_false_iff]
  intro hb
  obtain ⟨m, w, hw, e, _⟩ := (asg_bit h r _).1 hb
  have hm := List.mem_of_getElem? hw
  have := h.mem w hm
  exact hn (by rw [show v = w by omega]; exact hm)
theorem hs_agree (vs rs : List Int) {x y : Nat} (h : ∀ w, w ∈ vs → x.testBit w.toNat = y.testBit w.toNat) : hs vs rs x = hs vs rs y := by
  unfold hs; rw [row_agree vs h]
theorem hs_asg {vs rs : List Int} (h : VT vs rs) (x : Nat) : hs vs rs (asg vs (row vs x)) = hs vs rs x := hs_agree vs rs (fun w hw => asg_at h.vars x hw)
theorem hs_ovr {us : List Int} (hc : Chn 24 none us) (t : Nat → Bool) (x : Nat) : hs us (ovr us t) x = t (asg us (row us x)) := by
  unfold hs
  rw [Bool.eq_iff_iff, decide_eq_true_eq, ovr_mem]
  constructor
  · rintro ⟨m, _, h1, h2⟩
    have : row us x = m := by omega
    rw [this]; exact h1
  · intro h; exact ⟨row us x, row_lt us x, h, rfl⟩
def setb (a : Nat) (v : Int) (b : Bool) : Nat := a ||| (b.toNat * 2 ^ v.toNat)
theorem setb_bit (a : Nat) (v : Int) (b : Bool) (j : Nat) : (setb a v b).testBit j = (a.testBit j || (b && decide (j = v.toNat))) := by
  unfold setb
  rw [Nat.testBit_or]
  have := bit_add b 0 v.toNat (Nat.two_pow_pos _) j
  rw [Nat.zero_add, Nat.zero_testBit, Bool.false_or] at this
  rw [this]
/-- The variables but one. -/
def wo (vs : List Int) (v : Int) : List Int := vs.filter fun x => !(x == v)
theorem wo_mem (vs : List Int) (v w : Int) : w ∈ wo vs v ↔ w ∈ vs ∧ w ≠ v := by unfold wo; rw [List.mem_filter]; simp
theorem wo_chn {hi : Int} {vs : List Int} (h : Chn hi none vs) (v : Int) : Chn hi none (wo vs v) := h.filter _
theorem wo_le (vs : List Int) (v : Int) : (wo vs v).length ≤ vs.length := List.length_filter_le _ _
theorem wo_lt {vs : List Int} {v : Int} (h : v ∈ vs) : (wo vs v).length < vs.length := by
  have : ∀ l : List Int, v ∈ l → (l.filter fun x => !(x == v)).length < l.length := by
    intro l
    induction l with
    | nil => intro h; simp at h
    | cons x xs ih =>
      intro hx
      rw [List.filter_cons]
      by_cases e : x = v
      · rw [if_neg (by simp [e])]
        have := List.length_filter_le (fun x => !(x == v)) xs
        simp only [List.length_cons]; omega
      · rw [if_pos (by simp [e])]
        have := ih (by rcases List.mem_cons.1 hx with h | h; exact absurd h.symm e; exact h)
        simp only [List.length_cons]; omega
  exact this vs h
/-- The rows over some of the variables. -/
def prj (vs rs us : List Int) : List Int := flt (fun m => rs.any fun r => row us (asg vs r.toNat) == m) (2 ^ us.length) 0
theorem prj_chn (vs rs us : List Int) : Chn ((2 ^ us.length : Nat) : Int) none (prj vs rs us) := by
  have := flt_chn (fun m => rs.any fun r => row us (asg vs r.toNat) == m) (2 ^ us.length) 0 none (fun q hq => by cases hq)
  rw [Nat.zero_add] at this
  exact this
theorem prj_mem (vs rs us : List Int) (x : Int) : x ∈ prj vs rs us ↔ ∃ r, r ∈ rs ∧ x = ((row us (asg vs r.toNat) : Nat) : Int) := by
  unfold prj
  rw [flt_mem]
  constructor
  · rintro ⟨m, _, _, h, rfl⟩
    obtain ⟨r, hr, e⟩ := List.any_eq_true.1 h
    exact ⟨r, hr, by rw [beq_iff_eq.1 e]⟩
  · rintro ⟨r, hr, rfl⟩
    exact ⟨_, by omega, by rw [Nat.zero_add]; exact row_lt _ _, List.any_eq_true.2 ⟨r, hr, by simp⟩, rfl⟩
theorem VT.row_of {vs rs : List Int} (h : VT vs rs) {r : Int} (hr : r ∈ rs) : 0 ≤ r ∧ r.toNat < 2 ^ vs.length ∧ row vs (asg vs r.toNat) = r.toNat := by
  have h1 := h.rows.mem r hr
  have h2 : r.toNat < 2 ^ vs.length := by
    have := h1.2.1
    generalize 2 ^ vs.length = z at *
    omega
  exact ⟨h1.1, h2, row_asg h.vars h2⟩
theorem prj_self {vs rs : List Int} (h : VT vs rs) : prj vs rs vs = rs := by
  refine Chn.same (prj_chn vs rs vs) h.rows (fun n => ?_)
  rw [prj_mem]
  constructor
  · rintro ⟨r, hr, rfl⟩
    have := h.row_of hr
    rw [this.2.2, ← nat_of this.1]; exact hr
  · intro hn
    have := h.row_of hn
    exact ⟨n, hn, by rw [this.2.2, ← nat_of this.1]⟩
/-- Restrict: the rows over the other variables whose assignments, with the value, belong to the table; or: what remains of the rows with the value. -/
theorem restrict_eq {vs rs : List Int} (h : VT vs rs) {v : Int} (hv : v ∈ vs) (b : Bool) :
    ovr (wo vs v) (fun a => hs vs rs (setb a v b)) = prj vs (rs.filter fun r => (asg vs r.toNat).testBit v.toNat == b) (wo vs v) := by
  have hc := wo_chn h.vars v
  have hv0 := (h.vars.mem v hv).1
  have hnv : v ∉ wo vs v := fun hh => ((wo_mem vs v v).1 hh).2 rfl
  refine Chn.same (ovr_chn _ _) (prj_chn _ _ _) (fun x => ?_)
  rw [ovr_mem, prj_mem]
  constructor
  · rintro ⟨m, hm, ht, rfl⟩
    have ht2 : ((row vs (setb (asg (wo vs v) m) v b) : Nat) : Int) ∈ rs := by simpa [hs] using ht
    refine ⟨_, List.mem_filter.2 ⟨ht2, ?_⟩, ?_⟩
    · rw [Int.toNat_natCast, asg_at h.vars _ hv, setb_bit, asg_out hc m hv0 hnv]; simp
    · rw [Int.toNat_natCast]
      congr 1
      rw [← row_asg hc hm]
      refine row_agree _ (fun w hw => ?_)
      have hw2 := (wo_mem vs v w).1 hw
      have hw0 := (h.vars.mem w hw2.1).1
      rw [row_asg hc hm, asg_at h.vars _ hw2.1, setb_bit, decide_eq_false (fun e => hw2.2 (by omega)), Bool.and_false, Bool.or_false]
  · rintro ⟨r, hr, rfl⟩
    obtain ⟨hr1, hr2⟩ := List.mem_filter.1 hr
    have hro := h.row_of hr1
    refine ⟨_, row_lt _ _, ?_, rfl⟩
    have : row vs (setb (asg (wo vs v) (row (wo vs v) (asg vs r.toNat))) v b) = r.toNat := by
      rw [← hro.2.2]
      refine row_agree _ (fun w hw => ?_)
      rw [hro.2.2, setb_bit]
      by_cases e : w = v
      · subst e
        rw [asg_out hc _ hv0 hnv, decide_eq_true rfl, Bool.and_true, Bool.false_or]
        exact (beq_iff_eq.1 hr2).symm
      · have hw0 := (h.vars.mem w hw).1
        rw [asg_at hc _ ((wo_mem vs v w).2 ⟨hw, e⟩), decide_eq_false (fun e2 => e (by omega)), Bool.and_false, Bool.or_false]
    unfold hs
    rw [this, ← nat_of hro.1]
    simpa using hr1
/-! Variables that matter. -/
def flip (a : Nat) (v : Int) : Nat := a ^^^ (2 ^ v.toNat)
theorem flip_bit (a : Nat) (v : Int) (j : Nat) : (flip a v).testBit j = (a.testBit j ^^ decide (j = v.toNat)) := by
  unfold flip
  rw [Nat.testBit_xor, Nat.testBit_two_pow]
  congr 1
  exact decide_eq_decide.2 ⟨fun h => h.symm, fun h => h.symm⟩
def mat (vs rs : List Int) (v : Int) : Bool := (List.range (2 ^ vs.length)).any fun r => hs vs rs (asg vs r) != hs vs rs (flip (asg vs r) v)
theorem mat_false {vs rs : List Int} (h : VT vs rs) {v : Int} (hv : mat vs rs v = false) (x y : Nat) (hxy : ∀ w, w ∈ vs → w ≠ v → x.testBit w.toNat = y.testBit w.toNat) (h0 : 0 ≤ v) : hs vs rs x = hs vs rs y := by
  have key : ∀ x, hs vs rs x = hs vs rs (flip x v) := by
    intro x
    unfold mat at hv
    rw [List.any_eq_false] at hv
    have := hv (row vs x) (List.mem_range.2 (row_lt vs x))
    have e : hs vs rs (asg vs (row vs x)) = hs vs rs (flip (asg vs (row vs x)) v) := by simpa using this
    rw [hs_asg h] at e
    rw [e]
    refine hs_agree vs rs (fun w hw => ?_)
    rw [flip_bit, flip_bit, asg_at h.vars x hw]
  by_cases e : x.testBit v.toNat = y.testBit v.toNat
  · refine hs_agree vs rs (fun w hw => ?_)
    by_cases ew : w = v
    · rw [ew]; exact e
    · exact hxy w hw ew
  · rw [key x]
    refine hs_agree vs rs (fun w hw => ?_)
    rw [flip_bit]
    by_cases ew : w = v
    · subst ew
      rw [decide_eq_true rfl]
      revert e
      cases x.testBit w.toNat <;> cases y.testBit w.toNat <;> simp
    · have hw0 := (h.vars.mem w hw).1
      rw [decide_eq_false (fun e2 => ew (by omega)), Bool.xor_false]
      exact hxy w hw ew
theorem mat_true {vs rs : List Int} {v : Int} (h : ∃ x, hs vs rs x ≠ hs vs rs (flip x v)) (hv : VT vs rs) : mat vs rs v = true := by
  obtain ⟨x, hx⟩ := h
  unfold mat
  rw [List.any_eq_true]
  refine ⟨row vs x, List.mem_range.2 (row_lt vs x), ?_⟩
  have e1 := hs_asg hv x
  have e2 : hs vs rs (flip (asg vs (row vs x)) v) = hs vs rs (flip x v) := hs_agree vs rs (fun w hw => by rw [flip_bit, flip_bit, asg_at hv.vars x hw])
  rw [e1, e2]
  simpa using hx
theorem mat_iff {vs rs : List Int} (hv : VT vs rs) (v : Int) : mat vs rs v = true ↔ ∃ x, hs vs rs x ≠ hs vs rs (flip x v) := by
  refine ⟨fun h => ?_, fun h => mat_true h hv⟩
  unfold mat at h
  obtain ⟨r, _, hr⟩ := List.any_eq_true.1 h
  exact ⟨asg vs r, by simpa using hr⟩
/-- The rows without a variable that doesn't matter. -/
theorem zero_one {vs rs : List Int} (h : VT vs rs) {v : Int} (hv : v ∈ vs) : ovr (wo vs v) (hs vs rs) = ovr (wo vs v) (fun a => hs vs rs (setb a v true)) ↔ mat vs rs v = false := by
  have hc := wo_chn h.vars v
  have hv0 := (h.vars.mem v hv).1
  have hnv : v ∉ wo vs v := fun hh => ((wo_mem vs v v).1 hh).2 rfl
  constructor
  · intro e
    rw [Bool.eq_false_iff]
    intro hm
    obtain ⟨x, hx⟩ := (mat_iff h v).1 hm
    -- the two ways, with the variable's bit 0 and 1
    have e0 : ∀ y, hs vs rs (asg (wo vs v) (row (wo vs v) y)) = hs vs rs (setb (asg (wo vs v) (row (wo vs v) y)) v true) := by
      intro y
      have h1 := hs_ovr hc (hs vs rs) y
      have h2 := hs_ovr hc (fun a => hs vs rs (setb a v true)) y
      rw [← h1, e, h2]
    have ag : ∀ y : Nat, y.testBit v.toNat = false → hs vs rs y = hs vs rs (asg (wo vs v) (row (wo vs v) y)) := fun y hy => hs_agree vs rs (fun w hw => by
      by_cases ew : w = v
      · subst ew; rw [hy, asg_out hc _ hv0 hnv]
      · rw [asg_at hc y ((wo_mem vs v w).2 ⟨hw, ew⟩)])
    have ag1 : ∀ y : Nat, y.testBit v.toNat = true → hs vs rs y = hs vs rs (setb (asg (wo vs v) (row (wo vs v) y)) v true) := fun y hy => hs_agree vs rs (fun w hw => by
      rw [setb_bit]
      by_cases ew : w = v
      · subst ew; rw [hy, decide_eq_true rfl]; simp
      · have hw0 := (h.vars.mem w hw).1
        rw [asg_at hc y ((wo_mem vs v w).2 ⟨hw, ew⟩), decide_eq_false (fun e2 => ew (by omega)), Bool.and_false, Bool.or_false])
    have rf : row (wo vs v) (flip x v) = row (wo vs v) x := row_agree _ (fun w hw => by
      have hw2 := (wo_mem vs v w).1 hw
      have hw0 := (h.vars.mem w hw2.1).1
      rw [flip_bit, decide_eq_false (fun e2 => hw2.2 (by omega)), Bool.xor_false])
    have ff : (flip x v).testBit v.toNat = !(x.testBit v.toNat) := by rw [flip_bit, decide_eq_true rfl, Bool.xor_true]
    by_cases hb : x.testBit v.toNat = true
    · exact hx (by rw [ag1 x hb, ag (flip x v) (by rw [ff, hb]; rfl), rf, e0 x])
    · have hb' : x.testBit v.toNat = false := Bool.eq_false_iff.2 hb
      exact hx (by rw [ag x hb', ag1 (flip x v) (by rw [ff, hb']; rfl), rf, e0 x])
  · intro hm
    unfold ovr
    refine flt_congr _ _ _ _ (fun m _ _ => ?_)
    refine mat_false h hm _ _ (fun w hw hne => ?_) hv0
    have hw0 := (h.vars.mem w hw).1
    rw [setb_bit, decide_eq_false (fun e2 => hne (by omega)), Bool.and_false, Bool.or_false]
theorem hs_zero {vs rs : List Int} (h : VT vs rs) {v : Int} (hv : v ∈ vs) (hm : mat vs rs v = false) (x : Nat) : hs (wo vs v) (ovr (wo vs v) (hs vs rs)) x = hs vs rs x := by
  rw [hs_ovr (wo_chn h.vars v)]
  exact mat_false h hm _ _ (fun w hw hne => asg_at (wo_chn h.vars v) x ((wo_mem vs v w).2 ⟨hw, hne⟩)) (h.vars.mem v hv).1
theorem VT.zero {vs rs : List Int} (h : VT vs rs) (v : Int) (t : Nat → Bool) : VT (wo vs v) (ovr (wo vs v) t) :=
  ⟨Nat.le_trans (wo_le vs v) h.len, wo_chn h.vars v, ovr_chn _ _⟩
/-- The variables that matter, and the rows over them. -/
def vit (vs rs : List Int) : List Int × List Int := (vs.filter (mat vs rs), prj vs rs (vs.filter (mat vs rs)))
theorem vit_zero {vs rs : List Int} (h : VT vs rs) {v : Int} (hv : v ∈ vs) (hm : mat vs rs v = false) : vit (wo vs v) (ovr (wo vs v) (hs vs rs)) = vit vs rs := by
  have hz := h.zero v (hs vs rs)
  have same : ∀ w, mat (wo vs v) (ovr (wo vs v) (hs vs rs)) w = mat vs rs w := by
    intro w
    rw [Bool.eq_iff_iff, mat_iff hz, mat_iff h]
    simp only [hs_zero h hv hm]
  have hf : (wo vs v).filter (mat (wo vs v) (ovr (wo vs v) (hs vs rs))) = vs.filter (mat vs rs) := by
    unfold wo at same ⊢
    rw [List.filter_filter]
    refine List.filter_congr (fun w hw => ?_)
    rw [same w]
    by_cases e : w = v
    · subst e; rw [hm]; rfl
    · simp [e]
  unfold vit
  rw [hf]
  refine congrArg (Prod.mk _) (Chn.same (prj_chn _ _ _) (prj_chn _ _ _) (fun n => ?_))
  have hsub : ∀ w, w ∈ vs.filter (mat vs rs) → w ∈ vs ∧ w ≠ v := fun w hw => by
    obtain ⟨h1, h2⟩ := List.mem_filter.1 hw
    exact ⟨h1, fun e => by rw [e, hm] at h2; exact absurd h2 (by simp)⟩
  rw [prj_mem, prj_mem]
  constructor
  · rintro ⟨z, hz2, rfl⟩
    obtain ⟨m, hm2, ht, rfl⟩ := (ovr_mem _ _ _).1 hz2
    have ht2 : ((row vs (asg (wo vs v) m) : Nat) : Int) ∈ rs := by simpa [hs] using ht
    refine ⟨_, ht2, ?_⟩
    rw [Int.toNat_natCast, Int.toNat_natCast]
    congr 1
    exact row_agree _ (fun w hw => (asg_at h.vars _ (hsub w hw).1).symm)
  · rintro ⟨r, hr, rfl⟩
    have hro := h.row_of hr
    refine ⟨((row (wo vs v) (asg vs r.toNat) : Nat) : Int), (ovr_mem _ _ _).2 ⟨_, row_lt _ _, ?_, rfl⟩, ?_⟩
    · have e : hs vs rs (asg (wo vs v) (row (wo vs v) (asg vs r.toNat))) = hs vs rs (asg vs r.toNat) :=
        mat_false h hm _ _ (fun w hw hne => asg_at (wo_chn h.vars v) _ ((wo_mem vs v w).2 ⟨hw, hne⟩)) (h.vars.mem v hv).1
      rw [e]
      unfold hs
      rw [hro.2.2, ← nat_of hro.1]
      simpa using hr
    · rw [Int.toNat_natCast]
      congr 1
      exact row_agree _ (fun w hw => (asg_at (wo_chn h.vars v) _ ((wo_mem vs v w).2 (hsub w hw))).symm)
theorem vit_all {vs rs : List Int} (h : VT vs rs) (ha : ∀ v, v ∈ vs → mat vs rs v = true) : vit vs rs = (vs, rs) := by
  have : vs.filter (mat vs rs) = vs := List.filter_eq_self.2 ha
  unfold vit
  rw [this, prj_self h]
end Go.Proofs.Ythcfmdkhkikbcaa.Pure
