/- The plain law behind P: about the printed functions alone, no memory and no Go in it. -/
import Derived.Test.YthcfmdkhkikbcaaPureJ
import Derived.Test.YthcfmdkhkikbcaaT10
import Derived.Test.YthcfmdkhkikbcaaT15
import Derived.Test.YthcfmdkhkikbcaaT20
import Derived.Test.YthcfmdkhkikbcaaT21
import Derived.Test.YthcfmdkhkikbcaaT26
import Derived.Test.YthcfmdkhkikbcaaT27
import Derived.Test.YthcfmdkhkikbcaaT28
namespace Go.Proofs.Ythcfmdkhkikbcaa.Pure
open Go.RowKit Go.Proofs.YthcfmdkhkikbcaaW.PrintWords Go.Proofs.Ythcfmdkhkikbcaa.T
set_option linter.unusedVariables false
set_option linter.unusedSimpArgs false
/-! ### over -/
theorem o_ex_loop {vs : List Int} (hc : Chn 24 none vs) (hl : vs.length ≤ 10) (t0 t1 : List Int) (t : Nat → Bool) (ht : ∀ a : Nat, a < 2 ^ 24 → Ev (fun k => table_Extend_1_v1.f k (a : Int) t0 t1) (t a)) (V : List Int) (N : Nat) (hN : N ≤ 1024) : ∀ (d r : Nat) (acc : List Int), r + d = N → acc.length ≤ r →
    Ev (fun k => table_over_table_Extend_1.l0 k vs (N : Int) (r : Int) t0 t1 V acc) (V, acc ++ flt (fun r => t (asg vs r)) d r)
  | 0, r, acc, h, ha => Ev.step (f := fun _ => some (V, acc)) (fun k => by rw [table_over_table_Extend_1.l0, if_neg (by omega)]) (by simpa [flt] using Ev.now _)
  | d + 1, r, acc, h, ha => by
    have hw : wrap64 ((r : Int) + 1) = ((r + 1 : Nat) : Int) := by rw [w64_in _ (by omega)]; omega
    have hr : r < 2 ^ 60 := Nat.lt_of_le_of_lt (show r ≤ 1024 by omega) (by decide)
    refine Ev.step (fun k => by rw [table_over_table_Extend_1.l0, if_pos (by omega)]) (Ev.bind (asg_ev hc (by omega) r hr) (Ev.bind (ht _ (asg_lt hc r)) ?_))
    rw [flt, hw]
    by_cases e : t (asg vs r) = true
    · have ih := o_ex_loop hc hl t0 t1 t ht V N hN d (r + 1) (acc ++ [(r : Int)]) (by omega) (by simp; omega)
      rw [if_pos e]
      rw [List.append_assoc, List.singleton_append] at ih
      exact ev_pos e (ev_pos (by omega) ih)
    · have ih := o_ex_loop hc hl t0 t1 t ht V N hN d (r + 1) acc (by omega) (by omega)
      rw [if_neg e]
      exact ev_neg e ih
theorem o_ex_ev {vs : List Int} (hc : Chn 24 none vs) (hl : vs.length ≤ 10) (t0 t1 : List Int) (t : Nat → Bool) (ht : ∀ a : Nat, a < 2 ^ 24 → Ev (fun k => table_Extend_1_v1.f k (a : Int) t0 t1) (t a)) : Ev (fun k => table_over_table_Extend_1.f k vs t0 t1) (vs, ovr vs t) := by
  unfold table_over_table_Extend_1.f
  rw [clone_eq vs (by omega), shl1 vs.length (by omega)]
  exact o_ex_loop hc hl t0 t1 t ht vs (2 ^ vs.length) (pow10 hl) (2 ^ vs.length) 0 [] (by omega) (by simp)
/-! ### Contains -/
theorem index_loop (l : List Int) (hl : (l.length : Int) ≤ 9223372036854775807) (x : Int) : ∀ (d i : Nat), i + d = l.length → ∃ q : Int, Ev (fun k => slices_Index_int_int.l0 k l x l.length i) q ∧ decide (q ≥ 0) = decide (x ∈ l.drop i)
  | 0, i, h => by
    rw [List.drop_eq_nil_of_le (by omega)]
    exact ⟨-1, Ev.step (f := fun _ => some (-1)) (fun k => by rw [slices_Index_int_int.l0, if_neg (by omega)]) (Ev.now _), by simp⟩
  | d + 1, i, h => by
    have hi : i < l.length := by omega
    have hw := wrap_succ i l.length hi hl
    obtain ⟨q, hq, hq2⟩ := index_loop l hl x d (i + 1) (by omega)
    rw [rd_at l i hi]
    by_cases e : x = rd l i
    · exact ⟨i, Ev.step (f := fun _ => some (i : Int)) (fun k => by rw [slices_Index_int_int.l0, if_pos (by omega), if_pos (by omega), if_pos (by omega), if_pos e]) (Ev.now _), decide_eq_decide.2 ⟨fun _ => by rw [e]; exact List.mem_cons_self, fun _ => by omega⟩⟩
    · refine ⟨q, Ev.step (fun k => by rw [slices_Index_int_int.l0, if_pos (by omega), if_pos (by omega), if_pos (by omega), if_neg e, hw]) hq, ?_⟩
      rw [hq2, decide_eq_decide, List.mem_cons]
      exact ⟨.inr, fun h => by rcases h with h | h; exact absurd h e; exact h⟩
theorem contains_ev (l : List Int) (hl : (l.length : Int) ≤ 9223372036854775807) (x : Int) : Ev (fun k => slices_Contains_int_int.f k l x) (decide (x ∈ l)) := by
  obtain ⟨q, hq, hq2⟩ := index_loop l hl x l.length 0 (by omega)
  rw [List.drop_zero] at hq2
  rw [← hq2]
  exact Ev.bind hq (Ev.now _)
/-! ### The reference's Join; Extend; Project -/
def bth (a b : List Int) : List Int := flt (fun m => decide ((m : Int) ∈ a) || decide ((m : Int) ∈ b)) 24 0
theorem bth_all {a b : List Int} (ha : Chn 24 none a) (hb : Chn 24 none b) : bth a b = all2 a b := by
  have hc := flt_chn (fun m => decide ((m : Int) ∈ a) || decide ((m : Int) ∈ b)) 24 0 none (fun q hq => by cases hq)
  refine Chn.same hc (all2_chn ha hb).1 (fun n => ?_)
  rw [(all2_chn ha hb).2]
  unfold bth
  rw [flt_mem]
  constructor
  · rintro ⟨m, _, _, h, rfl⟩
    simpa using h
  · intro h
    have hn : 0 ≤ n ∧ n < 24 := by
      rcases h with h | h
      · have := ha.mem n h; omega
      · have := hb.mem n h; omega
    refine ⟨n.toNat, by omega, by omega, ?_, nat_of hn.1⟩
    rw [← nat_of hn.1]
    simpa using h
theorem both_loop (a b : List Int) (ha : a.length ≤ 1000000) (hb : b.length ≤ 1000000) : ∀ (d i : Nat) (acc : List Int), i + d = 24 → acc.length ≤ i → Ev (fun k => ancepsref38_Both.l0 k a b acc i) (acc ++ flt (fun m => decide ((m : Int) ∈ a) || decide ((m : Int) ∈ b)) d i)
  | 0, i, acc, h, hl => Ev.step (f := fun _ => some acc) (fun k => by rw [ancepsref38_Both.l0, if_neg (by omega)]) (by simpa [flt] using Ev.now _)
  | d + 1, i, acc, h, hl => by
    have hw : wrap64 ((i : Int) + 1) = ((i + 1 : Nat) : Int) := by rw [w64_in _ (by omega)]; omega
    have ih1 := both_loop a b ha hb d (i + 1) (acc ++ [(i : Int)]) (by omega) (by simp; omega)
    have ih2 := both_loop a b ha hb d (i + 1) acc (by omega) (by omega)
    rw [List.append_assoc, List.singleton_append] at ih1
    refine Ev.step (fun k => by rw [ancepsref38_Both.l0, if_pos (by omega), hw]) (Ev.bind (in_ev a (by omega) i) ?_)
    rw [flt]
    by_cases e : ((i : Int) ∈ a)
    · rw [if_pos (by simp [e])]
      exact ev_pos (decide_eq_true e) (ev_pos (by omega) ih1)
    · refine ev_neg (by simpa using e) (Ev.bind (in_ev b (by omega) i) ?_)
      by_cases e2 : ((i : Int) ∈ b)
      · rw [if_pos (by simp [e2])]
        exact ev_pos (decide_eq_true e2) (ev_pos (by omega) ih1)
      · rw [if_neg (by simp [e, e2])]
        exact ev_neg (by simpa using e2) ih2
theorem both_ev {a b : List Int} (ha : Chn 24 none a) (hb : Chn 24 none b) (hla : a.length ≤ 1000000) (hlb : b.length ≤ 1000000) : Ev (fun k => ancepsref38_Both.f k a b) (all2 a b) := by
  have := both_loop a b hla hlb 24 0 [] (by omega) (by simp)
  rw [List.nil_append] at this
  rw [← bth_all ha hb]
  exact this
def twos (a b c d : List Int) : List Int × Int := if valid a b = 0 then if valid c d = 0 then if ((all2 a c).length : Int) > 10 then ([], 3) else (all2 a c, 0) else ([], valid c d) else ([], valid a b)
theorem two_ev (a b c d : List Int) (ha : a.length ≤ 1000000) (hb : b.length ≤ 1000000) (hc : c.length ≤ 1000000) (hd : d.length ≤ 1000000) : Ev (fun k => ancepsref38_two.f k a b c d) (twos a b c d) := by
  refine Ev.bind (rvalid_ev a b (by omega) (by omega)) (ev_ite (fun h1 => Ev.bind (rvalid_ev c d (by omega) (by omega)) (ev_ite (fun h2 => ?_) (fun _ => Ev.now _))) (fun _ => Ev.now _))
  have v1 := (valid_VT a b).1 h1
  have v2 := (valid_VT c d).1 h2
  exact Ev.bind (both_ev v1.vars v2.vars ha hc) (ev_ite (fun _ => Ev.now _) (fun _ => Ev.now _))
theorem rholds_ev {vs rs : List Int} (h : VT vs rs) (a : Nat) : Ev (fun k => ancepsref38_Holds.f k vs rs (a : Int)) (hs vs rs a) := by
  have h1 := h.rows_len
  have h2 := h.len
  exact Ev.bind (rrow_ev vs h.vars' (by omega) a) (Ev.bind (in_ev rs (by omega) _) (Ev.now _))
theorem rjoin_loop {a b c d : List Int} (h1 : VT a b) (h2 : VT c d) {us : List Int} (hu : Chn 24 none us) (hul : us.length ≤ 10) (V : List Int) : ∀ (e r : Nat) (acc : List Int), r + e = 2 ^ us.length → acc.length ≤ r →
    Ev (fun k => ancepsref38_Join.l0 k us r a b c d V acc) (V, acc ++ flt (fun r => hs a b (asg us r) && hs c d (asg us r)) e r, 0)
  | 0, r, acc, h, ha => by
    have hs1 := shl1 us.length (by omega)
    exact Ev.step (f := fun _ => some (V, acc, 0)) (fun k => by rw [ancepsref38_Join.l0, hs1, if_neg (by omega)]) (by simpa [flt] using Ev.now _)
  | e + 1, r, acc, h, ha => by
    have hs1 := shl1 us.length (by omega)
    have hp := pow10 hul
    have hw : wrap64 ((r : Int) + 1) = ((r + 1 : Nat) : Int) := by rw [w64_in _ (by omega)]; omega
    have ih1 := rjoin_loop h1 h2 hu hul V e (r + 1) (acc ++ [(r : Int)]) (by omega) (by simp; omega)
    have ih2 := rjoin_loop h1 h2 hu hul V e (r + 1) acc (by omega) (by omega)
    rw [List.append_assoc, List.singleton_append] at ih1
    refine Ev.step (fun k => by rw [ancepsref38_Join.l0, hs1, if_pos (by omega), hw]) (Ev.bind (rasg_ev hu (by omega) r) (Ev.bind (rholds_ev h1 _) ?_))
    rw [flt]
    by_cases e1 : hs a b (asg us r) = true
    · refine ev_pos e1 (Ev.bind (rholds_ev h2 _) ?_)
      by_cases e2 : hs c d (asg us r) = true
      · rw [if_pos (by rw [e1, e2]; rfl)]
        exact ev_pos e2 (ev_pos (by omega) ih1)
      · rw [if_neg (by rw [e1]; simpa using e2)]
        exact ev_neg e2 ih2
    · rw [if_neg (by rw [Bool.not_eq_true] at e1; rw [e1]; simp)]
      exact ev_neg e1 ih2
theorem rjoin_ev (a b c d : List Int) (ha : a.length ≤ 1000000) (hb : b.length ≤ 1000000) (hc : c.length ≤ 1000000) (hd : d.length ≤ 1000000) : Ev (fun k => ancepsref38_Join.f k a b c d) (cmb (fun x y => x && y) a b c d) := by
  have h := two_ev a b c d ha hb hc hd
  unfold twos at h
  unfold cmb
  by_cases h1 : valid a b = 0
  · rw [if_pos h1] at h ⊢
    by_cases h2 : valid c d = 0
    · rw [if_pos h2] at h ⊢
      by_cases h3 : ((all2 a c).length : Int) > 10
      · rw [if_pos h3] at h ⊢
        exact Ev.bind h (ev_neg (by decide) (Ev.now _))
      · rw [if_neg h3] at h ⊢
        have v1 := (valid_VT a b).1 h1
        have v2 := (valid_VT c d).1 h2
        have hj := rjoin_loop v1 v2 (all2_chn v1.vars v2.vars).1 (by omega) (all2 a c) (2 ^ (all2 a c).length) 0 [] (by omega) (by simp)
        rw [List.nil_append] at hj
        exact Ev.bind h (ev_pos rfl hj)
    · rw [if_neg h2] at h ⊢
      exact Ev.bind h (ev_neg h2 (Ev.now _))
  · rw [if_neg h1] at h ⊢
    exact Ev.bind h (ev_neg h1 (Ev.now _))
/-! Extend -/
def ext (vs rs us : List Int) : List Int × List Int × Int := if valid vs rs = 0 then if asc us = 0 then if ((all2 vs us).length : Int) > 10 then ([], [], 3) else (all2 vs us, ovr (all2 vs us) (hs vs rs), 0) else ([], [], asc us) else ([], [], valid vs rs)
theorem ex_ev {vs rs : List Int} (h : VT vs rs) (a : Nat) (ha : a < 2 ^ 24) : Ev (fun k => table_Extend_1_v1.f k (a : Int) vs rs) (hs vs rs a) :=
  Ev.bind (has_ev h a (Nat.lt_of_lt_of_le ha (by decide))) (Ev.now _)
theorem dext_ev (vs rs us : List Int) (hl : vs.length ≤ 1000000) (hr : (rs.length : Int) ≤ 9223372036854775807) (hu : us.length ≤ 1000000) : Ev (fun k => table_Extend.f k vs rs us) (ext vs rs us) := by
  refine Ev.bind (valid_ev vs rs (by omega) hr) (ev_ite (fun h1 => Ev.bind (asc_ev us (by omega)) (ev_ite (fun h2 => Ev.bind (all_ev vs us hl hu) (ev_ite (fun _ => Ev.now _) (fun h3 => ?_))) (fun _ => Ev.now _))) (fun _ => Ev.now _))
  have v1 := (valid_VT vs rs).1 h1
  have v2 := (asc_iff us).1 h2
  exact Ev.bind (o_ex_ev (all2_chn v1.vars v2.2).1 (by omega) vs rs _ (ex_ev v1)) (Ev.now _)
def full (n : Nat) : List Int := flt (fun _ => true) (2 ^ n) 0
theorem rows_loop (n : Nat) (hn : n ≤ 10) : ∀ (d i : Nat) (acc : List Int), i + d = 2 ^ n → acc.length ≤ i → Ev (fun k => ancepsref38_rows.l0 k (n : Int) acc i) (acc ++ flt (fun _ => true) d i)
  | 0, i, acc, h, ha => by
    have hs1 := shl1 n (by omega)
    exact Ev.step (f := fun _ => some acc) (fun k => by rw [ancepsref38_rows.l0, hs1, if_pos (by omega), if_neg (by omega)]) (by simpa [flt] using Ev.now _)
  | d + 1, i, acc, h, ha => by
    have hs1 := shl1 n (by omega)
    have hp := pow10 hn
    have hw : wrap64 ((i : Int) + 1) = ((i + 1 : Nat) : Int) := by rw [w64_in _ (by omega)]; omega
    have ih := rows_loop n hn d (i + 1) (acc ++ [(i : Int)]) (by omega) (by simp; omega)
    rw [List.append_assoc, List.singleton_append] at ih
    rw [flt, if_pos rfl]
    exact Ev.step (fun k => by rw [ancepsref38_rows.l0, hs1, if_pos (by omega), if_pos (by omega), if_pos (by omega), hw]) ih
theorem rows_ev (n : Nat) (hn : n ≤ 10) : Ev (fun k => ancepsref38_rows.f k (n : Int)) (full n) := by
  have := rows_loop n hn (2 ^ n) 0 [] (by omega) (by simp)
  rw [List.nil_append] at this
  exact this
theorem full_VT {us : List Int} (h : us.length ≤ 10) (hc : Chn 24 none us) : VT us (full us.length) := by
  have := flt_chn (fun _ => true) (2 ^ us.length) 0 none (fun q hq => by cases hq)
  rw [Nat.zero_add] at this
  exact ⟨h, hc, this⟩
theorem full_hs (us : List Int) (x : Nat) : hs us (full us.length) x = true := by
  unfold hs full
  exact decide_eq_true ((flt_mem _ _ _ _).2 ⟨row us x, by omega, by rw [Nat.zero_add]; exact row_lt us x, rfl, rfl⟩)
theorem rext_ev (vs rs us : List Int) (hl : vs.length ≤ 1000000) (hr : rs.length ≤ 1000000) (hu : us.length ≤ 1000000) : Ev (fun k => ancepsref38_Extend.f k vs rs us) (ext vs rs us) := by
  refine Ev.bind (rvalid_ev vs rs (by omega) (by omega)) (ev_ite (fun h1 => Ev.bind (rasc_ev us (by omega)) (ev_ite (fun h2 => ?_) (fun _ => Ev.now _))) (fun _ => Ev.now _))
  have v1 := (valid_VT vs rs).1 h1
  have v2 := (asc_iff us).1 h2
  have hf := full_VT v2.1 v2.2
  have hfl := hf.rows_len
  have hj := rjoin_ev vs rs us (full us.length) hl hr hu (by omega)
  unfold cmb at hj
  rw [if_pos h1, if_pos ((valid_VT _ _).2 hf)] at hj
  have e : ovr (all2 vs us) (fun x => hs vs rs x && hs us (full us.length) x) = ovr (all2 vs us) (hs vs rs) := by
    congr 1
    funext x
    rw [full_hs, Bool.and_true]
  simp only [e] at hj
  exact Ev.bind (rows_ev us.length v2.1) (Ev.bind hj (Ev.now _))
theorem ext_small (vs rs us : List Int) : (ext vs rs us).1.length ≤ 1024 ∧ (ext vs rs us).2.1.length ≤ 1024 := by
  unfold ext
  by_cases h : valid vs rs = 0
  · rw [if_pos h]
    by_cases h2 : asc us = 0
    · rw [if_pos h2]
      by_cases h3 : ((all2 vs us).length : Int) > 10
      · rw [if_pos h3]; simp
      · rw [if_neg h3]
        have hp := pow10 (n := (all2 vs us).length) (by omega)
        exact ⟨show (all2 vs us).length ≤ 1024 by omega, Nat.le_trans (ovr_len _ _) hp⟩
    · rw [if_neg h2]; simp
  · rw [if_neg h]; simp
/-! Project -/
def prjs (vs rs us : List Int) : List Int × List Int × Int := if valid vs rs = 0 then if asc us = 0 then if (us.any fun v => !decide (v ∈ vs)) = true then ([], [], 4) else (us, prj vs rs us, 0) else ([], [], asc us) else ([], [], valid vs rs)
theorem ifunc_loop (us vs rs : List Int) (hl : (us.length : Int) ≤ 9223372036854775807) (hv : (vs.length : Int) ≤ 9223372036854775807) : ∀ (d i : Nat), i + d = us.length → ∃ q : Int, Ev (fun k => slices_IndexFunc_int_int_table_Project_1.l0 k us us.length i vs rs) q ∧ decide (q ≥ 0) = (us.drop i).any fun v => !decide (v ∈ vs)
  | 0, i, h => by
    rw [List.drop_eq_nil_of_le (by omega)]
    exact ⟨-1, Ev.step (f := fun _ => some (-1)) (fun k => by rw [slices_IndexFunc_int_int_table_Project_1.l0, if_neg (by omega)]) (Ev.now _), rfl⟩
  | d + 1, i, h => by
    have hi : i < us.length := by omega
    have hw := wrap_succ i us.length hi hl
    obtain ⟨q, hq, hq2⟩ := ifunc_loop us vs rs hl hv d (i + 1) (by omega)
    have hc : Ev (fun k => table_Project_1_v1.f k (rd us i) vs rs) (!decide (rd us i ∈ vs)) := Ev.bind (contains_ev vs hv _) (Ev.now _)
    rw [rd_at us i hi, List.any_cons]
    by_cases e : rd us i ∈ vs
    · have hn : ¬ (!decide (rd us i ∈ vs)) = true := by rw [decide_eq_true e]; decide
      refine ⟨q, Ev.step (fun k => by rw [slices_IndexFunc_int_int_table_Project_1.l0, if_pos (by omega), if_pos (by omega), if_pos (by omega), hw]) (Ev.bind hc (ev_neg hn hq)), ?_⟩
      rw [hq2, decide_eq_true e]; rfl
    · have hn : (!decide (rd us i ∈ vs)) = true := by rw [decide_eq_false e]; rfl
      refine ⟨i, Ev.step (fun k => by rw [slices_IndexFunc_int_int_table_Project_1.l0, if_pos (by omega), if_pos (by omega), if_pos (by omega), hw]) (Ev.bind hc (ev_pos hn (Ev.now _))), ?_⟩
      rw [decide_eq_true (by omega), decide_eq_false e]; rfl
theorem cfunc_ev (us vs rs : List Int) (hl : (us.length : Int) ≤ 9223372036854775807) (hv : (vs.length : Int) ≤ 9223372036854775807) : Ev (fun k => slices_ContainsFunc_int_int_table_Project_1.f k us vs rs) (us.any fun v => !decide (v ∈ vs)) := by
  obtain ⟨q, hq, hq2⟩ := ifunc_loop us vs rs hl hv us.length 0 (by omega)
  rw [List.drop_zero] at hq2
  rw [← hq2]
  exact Ev.bind hq (Ev.now _)
theorem dproj_loop {vs rs : List Int} (h : VT vs rs) {us : List Int} (hu : ∀ v, v ∈ us → 0 ≤ v ∧ v < 24) (hul : us.length ≤ 10) (V : List Int) : ∀ (d i : Nat) (acc : List Int), i + d = rs.length → acc.length ≤ i →
    Ev (fun k => table_Project.l0 k us rs rs.length i vs rs V acc) (V, Lib.compact ((acc ++ (rs.drop i).map fun r => ((row us (asg vs r.toNat) : Nat) : Int)).mergeSort fun x y => decide (x ≤ y)), 0)
  | 0, i, acc, hd, ha => by
    have hr := h.rows_len
    rw [List.drop_eq_nil_of_le (by omega), List.map_nil, List.append_nil]
    have hs : slices_Sort_int_int.f acc = some (acc.mergeSort fun x y => decide (x ≤ y)) := by
      unfold slices_Sort_int_int.f
      rw [if_pos (by omega)]
    refine Ev.step (f := fun _ => some (V, Lib.compact (acc.mergeSort fun x y => decide (x ≤ y)), 0)) (fun k => by rw [table_Project.l0, if_neg (by omega), hs]; rfl) (Ev.now _)
  | d + 1, i, acc, hd, ha => by
    have hr := h.rows_len
    have hl := h.len
    have hi : i < rs.length := by omega
    have hw := wrap_succ i rs.length hi (by omega)
    have hro := h.row_of (rd_mem rs i hi)
    have hp := pow10 hl
    have h60 : (2 : Nat) ^ 60 = 1152921504606846976 := by decide
    have has := asg_ev h.vars (by omega) (rd rs i).toNat (by omega)
    rw [← nat_of hro.1] at has
    have hlt := asg_lt h.vars (rd rs i).toNat
    have ih := dproj_loop h hu hul V d (i + 1) (acc ++ [((row us (asg vs (rd rs i).toNat) : Nat) : Int)]) (by omega) (by simp; omega)
    rw [List.append_assoc, List.singleton_append] at ih
    rw [rd_at rs i hi, List.map_cons]
    have hal : acc.length < 17592186044416 := by omega
    exact Ev.step (fun k => by rw [table_Project.l0, if_pos (by omega), if_pos (by omega), if_pos (by omega), hw]) (Ev.bind has (Ev.bind (row_ev us hu (by omega) _ (Nat.lt_of_lt_of_le hlt (by decide))) (ev_pos hal ih)))
theorem prj_sort (vs rs us : List Int) : Lib.compact ((rs.map fun r => ((row us (asg vs r.toNat) : Nat) : Int)).mergeSort fun x y => decide (x ≤ y)) = prj vs rs us := by
  have := sorted_compact (hi := ((2 ^ us.length : Nat) : Int)) (rs.map fun r => ((row us (asg vs r.toNat) : Nat) : Int)) (fun x hx => by
    obtain ⟨r, _, rfl⟩ := List.mem_map.1 hx
    have := row_lt us (asg vs r.toNat)
    omega)
  refine Chn.same this.1 (prj_chn vs rs us) (fun n => ?_)
  rw [this.2, prj_mem, List.mem_map]
  exact ⟨fun ⟨r, h1, h2⟩ => ⟨r, h1, h2.symm⟩, fun ⟨r, h1, h2⟩ => ⟨r, h1, h2.symm⟩⟩
theorem dprj_ev (vs rs us : List Int) (hl : (vs.length : Int) ≤ 9223372036854775807) (hr : (rs.length : Int) ≤ 9223372036854775807) (hu : (us.length : Int) ≤ 9223372036854775807) : Ev (fun k => table_Project.f k vs rs us) (prjs vs rs us) := by
  refine Ev.bind (valid_ev vs rs hl hr) (ev_ite (fun h1 => Ev.bind (asc_ev us hu) (ev_ite (fun h2 => Ev.bind (cfunc_ev us vs rs hu hl) (ev_ite (fun _ => Ev.now _) (fun h3 => ?_))) (fun _ => Ev.now _))) (fun _ => Ev.now _))
  have v1 := (valid_VT vs rs).1 h1
  have v2 := (asc_iff us).1 h2
  have hlen := v2.1
  rw [clone_eq us (by omega)]
  have := dproj_loop v1 (fun v hv => by have := v2.2.mem v hv; omega) v2.1 us rs.length 0 [] (by omega) (by simp)
  rw [List.drop_zero, List.nil_append, prj_sort] at this
  exact this
theorem rproj_loop {vs rs : List Int} (h : VT vs rs) {us : List Int} (hu : ∀ v, v ∈ us → 0 ≤ v ∧ v < 24) (hul : us.length ≤ 10) : ∀ (d i : Nat), i + d = us.length →
    Ev (fun k => ancepsref38_Project.l0 k us i vs rs) (if ((us.drop i).any fun v => !decide (v ∈ vs)) = true then ([], [], 4) else (us, prj vs rs us, 0))
  | 0, i, hd => by
    have hr := h.rows_len
    have hl := h.len
    rw [List.drop_eq_nil_of_le (by omega), if_neg (by simp)]
    exact Ev.step (fun k => by rw [ancepsref38_Project.l0, if_neg (by omega)]) (Ev.bind (proj_ev h.vars (by omega) (fun r hr2 => (h.row_of hr2).1) (by omega) hu hul) (Ev.now (us, prj vs rs us, (0 : Int))))
  | d + 1, i, hd => by
    have hl := h.len
    have hi : i < us.length := by omega
    have hw := wrap_succ i us.length hi (by omega)
    have ih := rproj_loop h hu hul d (i + 1) (by omega)
    rw [rd_at us i hi, List.any_cons]
    refine Ev.step (fun k => by rw [ancepsref38_Project.l0, if_pos (by omega), if_pos (by omega), hw]) (Ev.bind (in_ev vs (by omega) _) ?_)
    by_cases e : rd us i ∈ vs
    · rw [decide_eq_true e, Bool.not_true, Bool.false_or]
      exact ev_pos rfl ih
    · rw [decide_eq_false e, Bool.not_false, Bool.true_or]
      exact ev_neg (by simp) (by rw [if_pos rfl]; exact Ev.now _)
theorem rprj_ev (vs rs us : List Int) (hl : (vs.length : Int) ≤ 9223372036854775807) (hr : (rs.length : Int) ≤ 9223372036854775807) (hu : (us.length : Int) ≤ 9223372036854775807) : Ev (fun k => ancepsref38_Project.f k vs rs us) (prjs vs rs us) := by
  refine Ev.bind (rvalid_ev vs rs hl hr) (ev_ite (fun h1 => Ev.bind (rasc_ev us hu) (ev_ite (fun h2 => ?_) (fun _ => Ev.now _))) (fun _ => Ev.now _))
  have v1 := (valid_VT vs rs).1 h1
  have v2 := (asc_iff us).1 h2
  have := rproj_loop v1 (fun v hv => by have := v2.2.mem v hv; omega) v2.1 us.length 0 (by omega)
  rw [List.drop_zero] at this
  exact this
theorem prjs_small (vs rs us : List Int) : (prjs vs rs us).1.length ≤ 1024 ∧ (prjs vs rs us).2.1.length ≤ 1024 := by
  unfold prjs
  by_cases h : valid vs rs = 0
  · rw [if_pos h]
    by_cases h2 : asc us = 0
    · rw [if_pos h2]
      have v2 := ((asc_iff us).1 h2).1
      split
      · simp
      · exact ⟨show us.length ≤ 1024 by omega, Nat.le_trans (flt_len _ _ _) (pow10 v2)⟩
    · rw [if_neg h2]; simp
  · rw [if_neg h]; simp
end Go.Proofs.Ythcfmdkhkikbcaa.Pure
