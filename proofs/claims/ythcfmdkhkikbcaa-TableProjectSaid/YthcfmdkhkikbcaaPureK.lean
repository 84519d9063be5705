/- The plain law behind K: about the printed functions alone, no memory and no Go in it. -/
import Derived.Test.YthcfmdkhkikbcaaPureM
import Derived.Test.YthcfmdkhkikbcaaT30
namespace Go.Proofs.Ythcfmdkhkikbcaa.Pure
open Go.RowKit Go.Proofs.YthcfmdkhkikbcaaW.PrintWords Go.Proofs.Ythcfmdkhkikbcaa.T
set_option linter.unusedVariables false
set_option linter.unusedSimpArgs false
/-! ### The variables that matter, again -/
theorem mat_same {vs rs : List Int} (h : VT vs rs) {v : Int} (hv : v ∈ vs) (hm : mat vs rs v = false) (w : Int) : mat (wo vs v) (ovr (wo vs v) (hs vs rs)) w = mat vs rs w := by
  rw [Bool.eq_iff_iff, mat_iff (h.zero v (hs vs rs)), mat_iff h]
  simp only [hs_zero h hv hm]
theorem agree_vital : ∀ (n : Nat) {vs rs : List Int}, vs.length ≤ n → VT vs rs → ∀ x y : Nat, (∀ w, w ∈ vs → mat vs rs w = true → x.testBit w.toNat = y.testBit w.toNat) → hs vs rs x = hs vs rs y
  | n, vs, rs, hn, h, x, y, hxy => by
    by_cases ha : ∀ v, v ∈ vs → mat vs rs v = true
    · exact hs_agree vs rs (fun w hw => hxy w hw (ha w hw))
    · obtain ⟨v, hv⟩ := Classical.not_forall.1 ha
      obtain ⟨hv, hm⟩ := Classical.not_imp.1 hv
      rw [Bool.not_eq_true] at hm
      have hlt := wo_lt hv
      cases n with
      | zero => omega
      | succ n =>
        rw [← hs_zero h hv hm x, ← hs_zero h hv hm y]
        refine agree_vital n (by omega) (h.zero v _) x y (fun w hw hmw => ?_)
        rw [mat_same h hv hm] at hmw
        exact hxy w ((wo_mem vs v w).1 hw).1 hmw
theorem vit_VT {vs rs : List Int} (h : VT vs rs) : VT (vit vs rs).1 (vit vs rs).2 :=
  ⟨Nat.le_trans (List.length_filter_le _ _) h.len, h.vars.filter _, prj_chn _ _ _⟩
theorem row_same {us : List Int} (hc : Chn 24 none us) {x y : Nat} (e : row us x = row us y) {w : Int} (hw : w ∈ us) : x.testBit w.toNat = y.testBit w.toNat := by
  rw [← asg_at hc x hw, e, asg_at hc y hw]
theorem hs_prj {vs rs us : List Int} (x : Nat) : hs us (prj vs rs us) x = true ↔ ∃ r, r ∈ rs ∧ row us x = row us (asg vs r.toNat) := by
  unfold hs
  rw [decide_eq_true_eq, prj_mem]
  exact ⟨fun ⟨r, h1, h2⟩ => ⟨r, h1, by omega⟩, fun ⟨r, h1, h2⟩ => ⟨r, h1, by rw [h2]⟩⟩
theorem hs_row {vs rs : List Int} (h : VT vs rs) {r : Int} (hr : r ∈ rs) : hs vs rs (asg vs r.toNat) = true := by
  have := h.row_of hr
  unfold hs
  rw [this.2.2, ← nat_of this.1]
  exact decide_eq_true hr
theorem vit_hs {vs rs : List Int} (h : VT vs rs) (x : Nat) : hs (vit vs rs).1 (vit vs rs).2 x = hs vs rs x := by
  have hc : Chn 24 none (vs.filter (mat vs rs)) := h.vars.filter _
  rw [Bool.eq_iff_iff]
  show hs (vs.filter (mat vs rs)) (prj vs rs (vs.filter (mat vs rs))) x = true ↔ _
  rw [hs_prj]
  constructor
  · rintro ⟨r, hr, e⟩
    rw [← hs_row h hr]
    exact agree_vital vs.length (Nat.le_refl _) h _ _ (fun w hw hm => row_same hc e (List.mem_filter.2 ⟨hw, hm⟩))
  · intro hx
    have hx2 : ((row vs x : Nat) : Int) ∈ rs := of_decide_eq_true hx
    refine ⟨_, hx2, ?_⟩
    rw [Int.toNat_natCast]
    exact row_agree _ (fun w hw => (asg_at h.vars x (List.mem_filter.1 hw).1).symm)
theorem vit_mat {vs rs : List Int} (h : VT vs rs) (v : Int) : mat (vit vs rs).1 (vit vs rs).2 v = mat vs rs v := by
  rw [Bool.eq_iff_iff, mat_iff (vit_VT h), mat_iff h]
  simp only [vit_hs h]
theorem vt_ovr {vs rs : List Int} (h : VT vs rs) : ovr vs (hs vs rs) = rs := by
  refine Chn.same (ovr_chn _ _) h.rows (fun n => ?_)
  rw [ovr_mem]
  constructor
  · rintro ⟨m, hm, ht, rfl⟩
    have := of_decide_eq_true ht
    rw [row_asg h.vars hm] at this
    exact this
  · intro hn
    have := h.row_of hn
    exact ⟨n.toNat, this.2.1, hs_row h hn, nat_of this.1⟩
theorem vit_eq {vs rs : List Int} (h : VT vs rs) : vit vs rs = (vs.filter (mat vs rs), ovr (vs.filter (mat vs rs)) (hs vs rs)) := by
  have h1 := vt_ovr (vit_VT h)
  have h2 : hs (vit vs rs).1 (vit vs rs).2 = hs vs rs := funext (vit_hs h)
  rw [h2] at h1
  exact congrArg (Prod.mk _) h1.symm
theorem mat_in {vs rs : List Int} (h : VT vs rs) {v : Int} (h0 : 0 ≤ v) (hm : mat vs rs v = true) : v ∈ vs := by
  obtain ⟨x, hx⟩ := (mat_iff h v).1 hm
  refine Classical.byContradiction fun hn => hx (hs_agree vs rs (fun w hw => ?_))
  have hw0 := (h.vars.mem w hw).1
  rw [flip_bit, decide_eq_false (fun e => hn (by rw [show v = w by omega]; exact hw)), Bool.xor_false]
/-- Two tables with the same meaning have the same variables that matter, and the same rows over them. -/
theorem vit_one {a b c d : List Int} (h1 : VT a b) (h2 : VT c d) (e : ∀ x, hs a b x = hs c d x) : vit a b = vit c d := by
  have hm : ∀ w, mat a b w = mat c d w := fun w => by
    rw [Bool.eq_iff_iff, mat_iff h1, mat_iff h2]
    simp only [e]
  have hf : a.filter (mat a b) = c.filter (mat c d) := by
    refine Chn.same (h1.vars.filter _) (h2.vars.filter _) (fun n => ?_)
    rw [List.mem_filter, List.mem_filter, hm n]
    exact ⟨fun ⟨p, q⟩ => ⟨mat_in h2 (h1.vars.mem n p).1 q, q⟩, fun ⟨p, q⟩ => ⟨mat_in h1 (h2.vars.mem n p).1 (by rw [hm n]; exact q), q⟩⟩
  have he : hs a b = hs c d := funext e
  rw [vit_eq h1, vit_eq h2, hf, he]
theorem ext_hs {vs rs us : List Int} (hv : ∀ w, w ∈ vs → w ∈ us) (hc : Chn 24 none us) (x : Nat) : hs us (ovr us (hs vs rs)) x = hs vs rs x := by
  rw [hs_ovr hc]
  exact hs_agree vs rs (fun w hw => asg_at hc x (hv w hw))
theorem compact_len (d : Array Int) : ∀ m, (Lib.compactUpTo d m).length ≤ m
  | 0 => by simp [Lib.compactUpTo]
  | m + 1 => by
    have := compact_len d m
    rw [Lib.compactUpTo_succ, List.length_append]
    split <;> simp <;> omega
theorem all2_len (a b : List Int) : (all2 a b).length ≤ a.length + b.length := by
  have := compact_len ((a ++ b).mergeSort fun x y => decide (x ≤ y)).toArray ((a ++ b).mergeSort fun x y => decide (x ≤ y)).length
  rw [List.length_mergeSort, List.length_append] at this
  unfold all2 Lib.compact
  rw [List.length_mergeSort, List.length_append]
  exact this
/-! Made -/
theorem made_rows (vs : List Int) (hc : Chn 24 none vs) (hl : vs.length ≤ 6) (p q : Int) : ∀ (d r : Nat) (acc : List Int), r + d = 2 ^ vs.length → acc.length ≤ r → Chn ((2 ^ vs.length : Nat) : Int) none acc → (∀ y, y ∈ acc → y < r) →
    ∃ rs, Ev (fun k => ancepsref38_Made.l1 k r p q vs acc) (vs, rs) ∧ VT vs rs
  | 0, r, acc, h, ha, hch, hlt => by
    have hs1 := shl1 vs.length (by omega)
    exact ⟨acc, Ev.step (f := fun _ => some (vs, acc)) (fun k => by rw [ancepsref38_Made.l1, hs1, if_neg (by omega)]) (Ev.now _), by omega, hc, hch⟩
  | d + 1, r, acc, h, ha, hch, hlt => by
    have hs1 := shl1 vs.length (by omega)
    have hp := pow10 (n := vs.length) (by omega)
    have hw : wrap64 ((r : Int) + 1) = ((r + 1 : Nat) : Int) := by rw [w64_in _ (by omega)]; omega
    by_cases e : Int.tmod (shr .u64 q r) 2 = 1
    · obtain ⟨rs, h1, h2⟩ := made_rows vs hc hl p q d (r + 1) (acc ++ [(r : Int)]) (by omega) (by simp; omega) (chn_snoc (by omega) (by omega) hch hlt (fun q hq => by cases hq)) (fun y hy => by
        rcases List.mem_append.1 hy with hy | hy
        · have := hlt y hy; omega
        · rw [List.mem_singleton.1 hy]; omega)
      exact ⟨rs, Ev.step (fun k => by rw [ancepsref38_Made.l1, hs1, if_pos (by omega), if_pos (by omega), if_pos e, if_pos (by omega), hw]) h1, h2⟩
    · obtain ⟨rs, h1, h2⟩ := made_rows vs hc hl p q d (r + 1) acc (by omega) (by omega) hch (fun y hy => by have := hlt y hy; omega)
      exact ⟨rs, Ev.step (fun k => by rw [ancepsref38_Made.l1, hs1, if_pos (by omega), if_pos (by omega), if_neg e, hw]) h1, h2⟩
theorem made_vars (p q : Int) : ∀ (d i : Nat) (acc : List Int), i + d = 24 → acc.length ≤ 6 → Chn 24 none acc → (∀ y, y ∈ acc → y < i) →
    ∃ vs rs, Ev (fun k => ancepsref38_Made.l0 k i p q acc) (vs, rs) ∧ VT vs rs ∧ vs.length ≤ 6
  | d, i, acc, h, ha, hch, hlt => by
    obtain ⟨rs, h1, h2⟩ := made_rows acc hch ha p q (2 ^ acc.length) 0 [] (by omega) (by simp) trivial (fun y hy => by simp at hy)
    have hend : Ev (fun k => ancepsref38_Made.j1 k i false p q acc) (acc, rs) := Ev.step (fun k => by rw [ancepsref38_Made.j1, if_neg (by simp)]; rfl) h1
    cases d with
    | zero => exact ⟨acc, rs, Ev.step (fun k => by rw [ancepsref38_Made.l0, if_neg (by omega)]) hend, h2, ha⟩
    | succ d =>
      have hw : wrap64 ((i : Int) + 1) = ((i + 1 : Nat) : Int) := by rw [w64_in _ (by omega)]; omega
      by_cases h6 : (acc.length : Int) < 6
      · have hgo : ∀ vs rs, Ev (fun k => ancepsref38_Made.j1 k i true p q acc) (vs, rs) → Ev (fun k => ancepsref38_Made.l0 k i p q acc) (vs, rs) := fun vs rs hh => Ev.step (fun k => by rw [ancepsref38_Made.l0, if_pos (by omega), decide_eq_true h6]) hh
        by_cases e : Int.tmod (shr .u32 p i) 2 = 1
        · obtain ⟨vs, rs, h3, h4⟩ := made_vars p q d (i + 1) (acc ++ [(i : Int)]) (by omega) (by simp; omega) (chn_snoc (by omega) (by omega) hch hlt (fun q hq => by cases hq)) (fun y hy => by
            rcases List.mem_append.1 hy with hy | hy
            · have := hlt y hy; omega
            · rw [List.mem_singleton.1 hy]; omega)
          exact ⟨vs, rs, hgo vs rs (Ev.step (fun k => by rw [ancepsref38_Made.j1, if_pos rfl, if_pos (by omega), if_pos e, if_pos (by omega), hw]) h3), h4⟩
        · obtain ⟨vs, rs, h3, h4⟩ := made_vars p q d (i + 1) acc (by omega) ha hch (fun y hy => by have := hlt y hy; omega)
          exact ⟨vs, rs, hgo vs rs (Ev.step (fun k => by rw [ancepsref38_Made.j1, if_pos rfl, if_pos (by omega), if_neg e, hw]) h3), h4⟩
      · exact ⟨acc, rs, Ev.step (fun k => by rw [ancepsref38_Made.l0, if_pos (by omega), decide_eq_false h6]) hend, h2, ha⟩
theorem made_ev (p q : Int) : ∃ vs rs, Ev (fun k => ancepsref38_Made.f k p q) (vs, rs) ∧ VT vs rs ∧ vs.length ≤ 6 := made_vars p q 24 0 [] (by omega) (by simp) trivial (fun y hy => by simp at hy)
end Go.Proofs.Ythcfmdkhkikbcaa.Pure
