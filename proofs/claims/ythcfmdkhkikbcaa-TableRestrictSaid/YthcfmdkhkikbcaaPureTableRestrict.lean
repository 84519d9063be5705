/- The plain law behind TableRestrict: about the printed functions alone, no memory and no Go in it. -/
import Derived.Test.YthcfmdkhkikbcaaPureJ
import Derived.Test.YthcfmdkhkikbcaaT16
import Derived.Test.YthcfmdkhkikbcaaT17
namespace Go.Proofs.Ythcfmdkhkikbcaa.Pure
open Go.RowKit Go.Proofs.YthcfmdkhkikbcaaW.PrintWords Go.Proofs.Ythcfmdkhkikbcaa.T
set_option linter.unusedVariables false
set_option linter.unusedSimpArgs false
/-! ### over -/
theorem o_re_loop {vs : List Int} (hc : Chn 24 none vs) (hl : vs.length ≤ 10) (t0 t1 : List Int) (b v : Int) (t : Nat → Bool) (ht : ∀ a : Nat, a < 2 ^ 24 → Ev (fun k => table_Restrict_1_v1.f k (a : Int) t0 t1 b v) (t a)) (V : List Int) (N : Nat) (hN : N ≤ 1024) : ∀ (d r : Nat) (acc : List Int), r + d = N → acc.length ≤ r →
    Ev (fun k => table_over_table_Restrict_1.l0 k vs (N : Int) (r : Int) t0 t1 b v V acc) (V, acc ++ flt (fun r => t (asg vs r)) d r)
  | 0, r, acc, h, ha => Ev.step (f := fun _ => some (V, acc)) (fun k => by rw [table_over_table_Restrict_1.l0, if_neg (by omega)]) (by simpa [flt] using Ev.now _)
  | d + 1, r, acc, h, ha => by
    have hw : wrap64 ((r : Int) + 1) = ((r + 1 : Nat) : Int) := by rw [w64_in _ (by omega)]; omega
    have hr : r < 2 ^ 60 := Nat.lt_of_le_of_lt (show r ≤ 1024 by omega) (by decide)
    refine Ev.step (fun k => by rw [table_over_table_Restrict_1.l0, if_pos (by omega)]) (Ev.bind (asg_ev hc (by omega) r hr) (Ev.bind (ht _ (asg_lt hc r)) ?_))
    rw [flt, hw]
    by_cases e : t (asg vs r) = true
    · have ih := o_re_loop hc hl t0 t1 b v t ht V N hN d (r + 1) (acc ++ [(r : Int)]) (by omega) (by simp; omega)
      rw [if_pos e]
      rw [List.append_assoc, List.singleton_append] at ih
      exact ev_pos e (ev_pos (by omega) ih)
    · have ih := o_re_loop hc hl t0 t1 b v t ht V N hN d (r + 1) acc (by omega) (by omega)
      rw [if_neg e]
      exact ev_neg e ih
theorem o_re_ev {vs : List Int} (hc : Chn 24 none vs) (hl : vs.length ≤ 10) (t0 t1 : List Int) (b v : Int) (t : Nat → Bool) (ht : ∀ a : Nat, a < 2 ^ 24 → Ev (fun k => table_Restrict_1_v1.f k (a : Int) t0 t1 b v) (t a)) : Ev (fun k => table_over_table_Restrict_1.f k vs t0 t1 b v) (vs, ovr vs t) := by
  unfold table_over_table_Restrict_1.f
  rw [clone_eq vs (by omega), shl1 vs.length (by omega)]
  exact o_re_loop hc hl t0 t1 b v t ht vs (2 ^ vs.length) (pow10 hl) (2 ^ vs.length) 0 [] (by omega) (by simp)
/-! ### Restrict -/
theorem index_loop (l : List Int) (hl : (l.length : Int) ≤ 9223372036854775807) (x : Int) : ∀ (d i : Nat), i + d = l.length → ∃ q : Int, Ev (fun k => slices_Index_int_int.l0 k l x l.length i) q ∧ decide (q ≥ 0) = decide (x ∈ l.drop i)
  | 0, i, h => by
    rw [List.drop_eq_nil_of_le (by omega)]
    exact ⟨-1, Ev.step (f := fun _ => some (-1)) (fun k => by rw [slices_Index_int_int.l0, if_neg (by omega)]) (Ev.now _), by simp⟩
  | d + 1, i, h => by
    have hi : i < l.length := by omega
    have hw := wrap_succ i l.length hi hl
    obtain ⟨q, hq, hq2⟩ := index_loop l hl x d (i + 1) (by omega)
    rw [rd_at l i hi]
    by_cases e : x = rd l i
    · exact ⟨i, Ev.step (f := fun _ => some (i : Int)) (fun k => by rw [slices_Index_int_int.l0, if_pos (by omega), if_pos (by omega), if_pos (by omega), if_pos e]) (Ev.now _), decide_eq_decide.2 ⟨fun _ => by rw [e]; exact List.mem_cons_self, fun _ => by omega⟩⟩
    · refine ⟨q, Ev.step (fun k => by rw [slices_Index_int_int.l0, if_pos (by omega), if_pos (by omega), if_pos (by omega), if_neg e, hw]) hq, ?_⟩
      rw [hq2, decide_eq_decide, List.mem_cons]
      exact ⟨.inr, fun h => by rcases h with h | h; exact absurd h e; exact h⟩
theorem contains_ev (l : List Int) (hl : (l.length : Int) ≤ 9223372036854775807) (x : Int) : Ev (fun k => slices_Contains_int_int.f k l x) (decide (x ∈ l)) := by
  obtain ⟨q, hq, hq2⟩ := index_loop l hl x l.length 0 (by omega)
  rw [List.drop_zero] at hq2
  rw [← hq2]
  exact Ev.bind hq (Ev.now _)
theorem re_ev {vs rs : List Int} (h : VT vs rs) {v : Int} (h0 : 0 ≤ v) (h1 : v < 24) (b : Bool) (a : Nat) (ha : a < 2 ^ 24) : Ev (fun k => table_Restrict_1_v1.f k (a : Int) vs rs ((b.toNat : Nat) : Int) v) (hs vs rs (setb a v b)) := by
  have := or_set a v b ha h0 h1
  unfold table_Restrict_1_v1.f
  rw [this]
  exact ev_pos h0 (Ev.bind (has_ev h _ (setb_lt a v b ha h1)) (Ev.now _))
def rst1 (vs rs : List Int) (v : Int) (b : Bool) : List Int × List Int × Int := if v ∈ vs then (wo vs v, ovr (wo vs v) (fun a => hs vs rs (setb a v b)), 0) else ([], [], 4)
def rst (vs rs : List Int) (v x : Int) : List Int × List Int × Int := if valid vs rs = 0 then if x = 0 then rst1 vs rs v false else if x = 1 then rst1 vs rs v true else ([], [], 6) else ([], [], valid vs rs)
theorem drest1_ev {vs rs : List Int} (h : VT vs rs) (v : Int) (b : Bool) : Ev (fun k => table_Restrict.j0 k false vs rs v ((b.toNat : Nat) : Int)) (rst1 vs rs v b) := by
  have hl := h.len
  refine Ev.step (fun k => by rw [table_Restrict.j0, if_neg (by simp)]) (Ev.bind (contains_ev vs (by omega) v) ?_)
  unfold rst1
  by_cases hv : v ∈ vs
  · have hv24 := h.vars' v hv
    have hwl := wo_le vs v
    rw [if_pos hv]
    exact ev_pos (decide_eq_true hv) (Ev.bind (without_ev vs v (by omega)) (Ev.bind (o_re_ev (wo_chn h.vars v) (by omega) vs rs _ v _ (re_ev h hv24.1 hv24.2 b)) (Ev.now _)))
  · rw [if_neg hv]
    exact ev_neg (by simpa using hv) (Ev.now _)
theorem drest_ev (vs rs : List Int) (hl : (vs.length : Int) ≤ 9223372036854775807) (hr : (rs.length : Int) ≤ 9223372036854775807) (v x : Int) : Ev (fun k => table_Restrict.f k vs rs v x) (rst vs rs v x) := by
  refine Ev.bind (valid_ev vs rs hl hr) (ev_ite (fun h => ?_) (fun _ => Ev.now _))
  have hv := (valid_VT vs rs).1 h
  refine ev_ite (fun e => ?_) (fun e => ?_)
  · subst e; exact drest1_ev hv v false
  · by_cases e1 : x = 1
    · subst e1; rw [if_pos rfl]; exact drest1_ev hv v true
    · have : (x != 1) = true := by simp [e1]
      rw [if_neg e1, this]
      exact Ev.step (f := fun _ => some ([], [], 6)) (fun k => by rw [table_Restrict.j0, if_pos rfl]) (Ev.now _)
/-! The reference. -/
theorem tmod_bit (x n : Nat) (hn : n ≤ 60) : Int.tmod (shr .i64 (x : Int) (n : Int)) 2 = (((x.testBit n).toNat : Nat) : Int) := by
  have hb : IntKind.i64.bits = 64 := rfl
  have h1 : shr .i64 (x : Int) (n : Int) = ((x / 2 ^ n : Nat) : Int) := by
    unfold shr
    rw [hb, show min ((n : Int)).toNat 64 = n by omega]
    simp
  rw [h1, Nat.toNat_testBit, Int.tmod_eq_emod_of_nonneg (Int.natCast_nonneg _)]
  simp
theorem rwithout_loop (vs : List Int) (hl : vs.length ≤ 1000000) (v : Int) : ∀ (d i : Nat) (acc : List Int), i + d = vs.length → acc.length ≤ i → Ev (fun k => ancepsref38_without.l0 k vs v acc i) (acc ++ wo (vs.drop i) v)
  | 0, i, acc, h, ha => by
    rw [List.drop_eq_nil_of_le (by omega)]
    exact Ev.step (f := fun _ => some acc) (fun k => by rw [ancepsref38_without.l0, if_neg (by omega)]) (by simpa [wo] using Ev.now _)
  | d + 1, i, acc, h, ha => by
    have hi : i < vs.length := by omega
    have hw := wrap_succ i vs.length hi (by omega)
    rw [rd_at vs i hi]
    by_cases e : rd vs i = v
    · have ih := rwithout_loop vs hl v d (i + 1) acc (by omega) (by omega)
      have : wo (rd vs i :: vs.drop (i + 1)) v = wo (vs.drop (i + 1)) v := by unfold wo; rw [List.filter_cons, if_neg (by simp [e])]
      rw [this]
      exact Ev.step (fun k => by rw [ancepsref38_without.l0, if_pos (by omega), if_pos (by omega), if_pos e, hw]) ih
    · have ih := rwithout_loop vs hl v d (i + 1) (acc ++ [rd vs i]) (by omega) (by simp; omega)
      have : wo (rd vs i :: vs.drop (i + 1)) v = rd vs i :: wo (vs.drop (i + 1)) v := by unfold wo; rw [List.filter_cons, if_pos (by simp [e])]
      rw [this]
      rw [List.append_assoc, List.singleton_append] at ih
      exact Ev.step (fun k => by rw [ancepsref38_without.l0, if_pos (by omega), if_pos (by omega), if_neg e, if_pos (by omega), hw]) ih
theorem rwithout_ev (vs : List Int) (hl : vs.length ≤ 1000000) (v : Int) : Ev (fun k => ancepsref38_without.f k vs v) (wo vs v) := by
  have := rwithout_loop vs hl v vs.length 0 [] (by omega) (by simp)
  rw [List.drop_zero, List.nil_append] at this
  exact this
theorem rrest_loop {vs rs : List Int} (h : VT vs rs) {v : Int} (hv : v ∈ vs) (b : Bool) : ∀ (d i : Nat) (acc : List Int), i + d = rs.length → acc.length ≤ i → (∀ r, r ∈ acc → 0 ≤ r) →
    Ev (fun k => ancepsref38_Restrict.l0 k v ((b.toNat : Nat) : Int) i vs rs vs acc) (wo vs v, prj vs (acc ++ (rs.drop i).filter fun r => (asg vs r.toNat).testBit v.toNat == b) (wo vs v), 0)
  | 0, i, acc, hd, ha, hp => by
    have hl := h.len
    have hwl := wo_le vs v
    have hr := h.rows_len
    rw [List.drop_eq_nil_of_le (by omega), List.filter_nil, List.append_nil]
    have hu : ∀ w, w ∈ wo vs v → 0 ≤ w ∧ w < 24 := fun w hw => h.vars' w ((wo_mem vs v w).1 hw).1
    refine Ev.step (fun k => by rw [ancepsref38_Restrict.l0, if_neg (by omega)]) (Ev.bind (rwithout_ev vs (by omega) v) (Ev.bind (proj_ev h.vars (by omega) hp (by omega) hu (by omega)) ?_))
    exact Ev.now _
  | d + 1, i, acc, hd, ha, hp => by
    have hl := h.len
    have hr := h.rows_len
    have hi : i < rs.length := by omega
    have hw := wrap_succ i rs.length hi (by omega)
    have hv24 := h.vars' v hv
    have h0 := (h.row_of (rd_mem rs i hi)).1
    have has := rasg_ev h.vars (by omega) (rd rs i).toNat
    rw [← nat_of h0] at has
    have hb := tmod_bit (asg vs (rd rs i).toNat) v.toNat (by omega)
    rw [← nat_of hv24.1] at hb
    rw [rd_at rs i hi, List.filter_cons]
    refine Ev.step (fun k => by rw [ancepsref38_Restrict.l0, if_pos (by omega), if_pos (by omega), hw]) (Ev.bind has (ev_pos hv24.1 ?_))
    rw [hb]
    by_cases e : (asg vs (rd rs i).toNat).testBit v.toNat = b
    · have ih := rrest_loop h hv b d (i + 1) (acc ++ [rd rs i]) (by omega) (by simp; omega) (fun r hr2 => by
        rcases List.mem_append.1 hr2 with h2 | h2
        · exact hp r h2
        · rw [List.mem_singleton.1 h2]; exact h0)
      rw [List.append_assoc, List.singleton_append] at ih
      rw [if_pos (show ((asg vs (rd rs i).toNat).testBit v.toNat == b) = true from beq_iff_eq.2 e)]
      exact ev_pos (by rw [e]) (ev_pos (by omega) ih)
    · have ih := rrest_loop h hv b d (i + 1) acc (by omega) (by omega) hp
      rw [if_neg (show ¬ ((asg vs (rd rs i).toNat).testBit v.toNat == b) = true from fun hh => e (beq_iff_eq.1 hh))]
      refine ev_neg (fun hh => e ?_) ih
      revert hh
      cases (asg vs (rd rs i).toNat).testBit v.toNat <;> cases b <;> simp
theorem rrest1_ev {vs rs : List Int} (h : VT vs rs) (v : Int) (b : Bool) : Ev (fun k => ancepsref38_Restrict.j0 k v ((b.toNat : Nat) : Int) false vs rs) (rst1 vs rs v b) := by
  have hl := h.len
  refine Ev.step (fun k => by rw [ancepsref38_Restrict.j0, if_neg (by simp)]) (Ev.bind (in_ev vs (by omega) v) ?_)
  unfold rst1
  by_cases hv : v ∈ vs
  · rw [if_pos hv, restrict_eq h hv b]
    have := rrest_loop h hv b rs.length 0 [] (by omega) (by simp) (fun r hr => by simp at hr)
    rw [List.drop_zero, List.nil_append] at this
    exact ev_pos (decide_eq_true hv) this
  · rw [if_neg hv]
    exact ev_neg (by simpa using hv) (Ev.now _)
theorem rrest_ev (vs rs : List Int) (hl : (vs.length : Int) ≤ 9223372036854775807) (hr : (rs.length : Int) ≤ 9223372036854775807) (v x : Int) : Ev (fun k => ancepsref38_Restrict.f k vs rs v x) (rst vs rs v x) := by
  refine Ev.bind (rvalid_ev vs rs hl hr) (ev_ite (fun h => ?_) (fun _ => Ev.now _))
  have hv := (valid_VT vs rs).1 h
  refine ev_ite (fun e => ?_) (fun e => ?_)
  · subst e; exact rrest1_ev hv v false
  · by_cases e1 : x = 1
    · subst e1; rw [if_pos rfl]; exact rrest1_ev hv v true
    · have : (x != 1) = true := by simp [e1]
      rw [if_neg e1, this]
      exact Ev.step (f := fun _ => some ([], [], 6)) (fun k => by rw [ancepsref38_Restrict.j0, if_pos rfl]) (Ev.now _)
theorem rst1_small {vs rs : List Int} (h : VT vs rs) (v : Int) (b : Bool) : (rst1 vs rs v b).1.length ≤ 1024 ∧ (rst1 vs rs v b).2.1.length ≤ 1024 := by
  unfold rst1
  by_cases hv : v ∈ vs
  · have hl := h.len
    have hwl := wo_le vs v
    have ho := ovr_len (wo vs v) (fun a => hs vs rs (setb a v b))
    have hp := pow10 (Nat.le_trans hwl hl)
    rw [if_pos hv]
    exact ⟨by show (wo vs v).length ≤ 1024; omega, Nat.le_trans ho hp⟩
  · rw [if_neg hv]; simp
theorem rst_small (vs rs : List Int) (v x : Int) : (rst vs rs v x).1.length ≤ 1024 ∧ (rst vs rs v x).2.1.length ≤ 1024 := by
  unfold rst
  by_cases h : valid vs rs = 0
  · have hv := (valid_VT vs rs).1 h
    rw [if_pos h]
    by_cases e : x = 0
    · rw [if_pos e]; exact rst1_small hv v false
    · rw [if_neg e]
      by_cases e1 : x = 1
      · rw [if_pos e1]; exact rst1_small hv v true
      · rw [if_neg e1]; simp
  · rw [if_neg h]; simp
theorem tableRestrict_ev (vs rs : List Int) (v x : Int) : Ev (fun k => ancepslaw38_TableRestrict.f k vs rs v x) true := by
  unfold ancepslaw38_TableRestrict.f
  refine Ev.bind awake_ev (ev_pos rfl ?_)
  have hno : Ev (fun k => ancepslaw38_TableRestrict.j0 k v x true vs rs) true := Ev.step (fun k => by rw [ancepslaw38_TableRestrict.j0, if_pos rfl]) awake_bind
  obtain ⟨b, hb, hs⟩ := few_some vs rs
  simp only [hb, Option.bind_some]
  cases b
  · exact hno
  · obtain ⟨h1, h2⟩ := hs rfl
    obtain ⟨s1, s2⟩ := rst_small vs rs v x
    refine Ev.step (fun k => by rw [ancepslaw38_TableRestrict.j0, if_neg (by simp), own_eq vs rs (by omega) (by omega)]) ?_
    refine Ev.bind (Ev.now _) ?_
    exact Ev.bind (drest_ev vs rs (by omega) (by omega) v x) (Ev.bind (rrest_ev vs rs (by omega) (by omega) v x) (ev_pos rfl (Ev.bind (equal_ev _ _ (by omega) (by omega)) (Ev.now _))))
theorem TableRestrict (l0_0 : List Int) (l0_1 : List Int) (a1 : Int) (a2 : Int) (w_l0_0 : ∀ x, x ∈ l0_0 → (Lit.int .i64 x).wf = true) (w_l0_1 : ∀ x, x ∈ l0_1 → (Lit.int .i64 x).wf = true) (w_a1 : (Lit.int .i64 a1).wf = true) (w_a2 : (Lit.int .i64 a2).wf = true) : ∃ k, T.ancepslaw38_TableRestrict.f k l0_0 l0_1 a1 a2 = some true := ev_rounds (tableRestrict_ev l0_0 l0_1 a1 a2)
end Go.Proofs.Ythcfmdkhkikbcaa.Pure
