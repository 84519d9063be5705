/- The plain law behind M: about the printed functions alone, no memory and no Go in it. -/
import Derived.Test.YthcfmdkhkikbcaaPureJ
import Derived.Test.YthcfmdkhkikbcaaT10
import Derived.Test.YthcfmdkhkikbcaaT13
import Derived.Test.YthcfmdkhkikbcaaT15
import Derived.Test.YthcfmdkhkikbcaaT26
namespace Go.Proofs.Ythcfmdkhkikbcaa.Pure
open Go.RowKit Go.Proofs.YthcfmdkhkikbcaaW.PrintWords Go.Proofs.Ythcfmdkhkikbcaa.T
set_option linter.unusedVariables false
set_option linter.unusedSimpArgs false
/-! ### xor -/
theorem bits_xor (a b : Nat) (ha : a < 2 ^ 62) (hb : b < 2 ^ 62) : Go.bits .xor .i64 (a : Int) (b : Int) = ((a ^^^ b : Nat) : Int) := by
  have h62 : (2 : Nat) ^ 62 = 4611686018427387904 := by decide
  have h64 : (2 : Nat) ^ IntKind.i64.bits = 18446744073709551616 := by decide
  have hx : a ^^^ b < 2 ^ 62 := Nat.xor_lt_two_pow ha hb
  have ha' : a % 2 ^ IntKind.i64.bits = a := Nat.mod_eq_of_lt (by omega)
  have hb' : b % 2 ^ IntKind.i64.bits = b := Nat.mod_eq_of_lt (by omega)
  simp only [Go.bits, BitVec.ofInt_natCast, BitVec.toNat_xor, BitVec.toNat_ofNat, ha', hb']
  rw [IntKind.wrap_i64]
  omega
/-! ### over -/
theorem o_ex_loop {vs : List Int} (hc : Chn 24 none vs) (hl : vs.length ≤ 10) (t0 t1 : List Int) (t : Nat → Bool) (ht : ∀ a : Nat, a < 2 ^ 24 → Ev (fun k => table_Extend_1_v1.f k (a : Int) t0 t1) (t a)) (V : List Int) (N : Nat) (hN : N ≤ 1024) : ∀ (d r : Nat) (acc : List Int), r + d = N → acc.length ≤ r →
    Ev (fun k => table_over_table_Extend_1.l0 k vs (N : Int) (r : Int) t0 t1 V acc) (V, acc ++ flt (fun r => t (asg vs r)) d r)
  | 0, r, acc, h, ha => Ev.step (f := fun _ => some (V, acc)) (fun k => by rw [table_over_table_Extend_1.l0, if_neg (by omega)]) (by simpa [flt] using Ev.now _)
  | d + 1, r, acc, h, ha => by
    have hw : wrap64 ((r : Int) + 1) = ((r + 1 : Nat) : Int) := by rw [w64_in _ (by omega)]; omega
    have hr : r < 2 ^ 60 := Nat.lt_of_le_of_lt (show r ≤ 1024 by omega) (by decide)
    refine Ev.step (fun k => by rw [table_over_table_Extend_1.l0, if_pos (by omega)]) (Ev.bind (asg_ev hc (by omega) r hr) (Ev.bind (ht _ (asg_lt hc r)) ?_))
    rw [flt, hw]
    by_cases e : t (asg vs r) = true
    · have ih := o_ex_loop hc hl t0 t1 t ht V N hN d (r + 1) (acc ++ [(r : Int)]) (by omega) (by simp; omega)
      rw [if_pos e]
      rw [List.append_assoc, List.singleton_append] at ih
      exact ev_pos e (ev_pos (by omega) ih)
    · have ih := o_ex_loop hc hl t0 t1 t ht V N hN d (r + 1) acc (by omega) (by omega)
      rw [if_neg e]
      exact ev_neg e ih
theorem o_ex_ev {vs : List Int} (hc : Chn 24 none vs) (hl : vs.length ≤ 10) (t0 t1 : List Int) (t : Nat → Bool) (ht : ∀ a : Nat, a < 2 ^ 24 → Ev (fun k => table_Extend_1_v1.f k (a : Int) t0 t1) (t a)) : Ev (fun k => table_over_table_Extend_1.f k vs t0 t1) (vs, ovr vs t) := by
  unfold table_over_table_Extend_1.f
  rw [clone_eq vs (by omega), shl1 vs.length (by omega)]
  exact o_ex_loop hc hl t0 t1 t ht vs (2 ^ vs.length) (pow10 hl) (2 ^ vs.length) 0 [] (by omega) (by simp)
/-! ### Contains -/
theorem index_loop (l : List Int) (hl : (l.length : Int) ≤ 9223372036854775807) (x : Int) : ∀ (d i : Nat), i + d = l.length → ∃ q : Int, Ev (fun k => slices_Index_int_int.l0 k l x l.length i) q ∧ decide (q ≥ 0) = decide (x ∈ l.drop i)
  | 0, i, h => by
    rw [List.drop_eq_nil_of_le (by omega)]
    exact ⟨-1, Ev.step (f := fun _ => some (-1)) (fun k => by rw [slices_Index_int_int.l0, if_neg (by omega)]) (Ev.now _), by simp⟩
  | d + 1, i, h => by
    have hi : i < l.length := by omega
    have hw := wrap_succ i l.length hi hl
    obtain ⟨q, hq, hq2⟩ := index_loop l hl x d (i + 1) (by omega)
    rw [rd_at l i hi]
    by_cases e : x = rd l i
    · exact ⟨i, Ev.step (f := fun _ => some (i : Int)) (fun k => by rw [slices_Index_int_int.l0, if_pos (by omega), if_pos (by omega), if_pos (by omega), if_pos e]) (Ev.now _), decide_eq_decide.2 ⟨fun _ => by rw [e]; exact List.mem_cons_self, fun _ => by omega⟩⟩
    · refine ⟨q, Ev.step (fun k => by rw [slices_Index_int_int.l0, if_pos (by omega), if_pos (by omega), if_pos (by omega), if_neg e, hw]) hq, ?_⟩
      rw [hq2, decide_eq_decide, List.mem_cons]
      exact ⟨.inr, fun h => by rcases h with h | h; exact absurd h e; exact h⟩
theorem contains_ev (l : List Int) (hl : (l.length : Int) ≤ 9223372036854775807) (x : Int) : Ev (fun k => slices_Contains_int_int.f k l x) (decide (x ∈ l)) := by
  obtain ⟨q, hq, hq2⟩ := index_loop l hl x l.length 0 (by omega)
  rw [List.drop_zero] at hq2
  rw [← hq2]
  exact Ev.bind hq (Ev.now _)
/-! ### Holds, Matters, Extend -/
theorem rholds_ev {vs rs : List Int} (h : VT vs rs) (a : Nat) : Ev (fun k => ancepsref38_Holds.f k vs rs (a : Int)) (hs vs rs a) := by
  have h1 := h.rows_len
  have h2 := h.len
  exact Ev.bind (rrow_ev vs h.vars' (by omega) a) (Ev.bind (in_ev rs (by omega) _) (Ev.now _))
theorem xor_flip (a : Nat) (v : Int) (ha : a < 2 ^ 24) (h0 : 0 ≤ v) (h1 : v < 24) : Go.bits .xor .i64 (a : Int) (shl .i64 1 v) = ((flip a v : Nat) : Int) := by
  have hip : (2 : Nat) ^ v.toNat ≤ 2 ^ 24 := Nat.pow_le_pow_right (by decide) (by omega)
  have e := shl1 v.toNat (by omega)
  rw [← nat_of h0] at e
  have hf : flip a v < 2 ^ 25 := Nat.xor_lt_two_pow (Nat.lt_of_lt_of_le ha (by decide)) (Nat.lt_of_le_of_lt hip (by decide))
  rw [e]
  have key := bits_xor a (2 ^ v.toNat) (Nat.lt_of_lt_of_le ha (by decide)) (Nat.lt_of_le_of_lt hip (by decide))
  exact key
theorem matters_loop {vs rs : List Int} (h : VT vs rs) {v : Int} (h0 : 0 ≤ v) (h1 : v < 24) : ∀ (d r : Nat), r + d = 2 ^ vs.length → Ev (fun k => ancepsref38_Matters.l0 k v r vs rs) ((List.range' r d).any fun r => hs vs rs (asg vs r) != hs vs rs (flip (asg vs r) v))
  | 0, r, hd => by
    have hs1 := shl1 vs.length (by have := h.len; omega)
    refine Ev.step (f := fun _ => some false) (fun k => by rw [ancepsref38_Matters.l0, hs1, if_neg (by omega)]) ?_
    exact Ev.now _
  | d + 1, r, hd => by
    have hl := h.len
    have hs1 := shl1 vs.length (by omega)
    have hp := pow10 hl
    have hw : wrap64 ((r : Int) + 1) = ((r + 1 : Nat) : Int) := by rw [w64_in _ (by omega)]; omega
    have ih := matters_loop h h0 h1 d (r + 1) (by omega)
    rw [List.range'_succ, List.any_cons]
    refine Ev.step (fun k => by rw [ancepsref38_Matters.l0, hs1, if_pos (by omega), hw]) (Ev.bind (rasg_ev h.vars (by omega) r) (Ev.bind (rholds_ev h _) (ev_pos h0 ?_)))
    rw [xor_flip _ v (asg_lt h.vars r) h0 h1]
    refine Ev.bind (rholds_ev h _) ?_
    by_cases e : (hs vs rs (asg vs r) != hs vs rs (flip (asg vs r) v)) = true
    · rw [e, Bool.true_or]; exact ev_pos rfl (Ev.now _)
    · rw [Bool.not_eq_true] at e
      rw [e, Bool.false_or]; exact ev_neg (by simp) ih
theorem matters_ev {vs rs : List Int} (h : VT vs rs) {v : Int} (h0 : 0 ≤ v) (h1 : v < 24) : Ev (fun k => ancepsref38_Matters.f k vs rs v) (mat vs rs v) := by
  have := matters_loop h h0 h1 (2 ^ vs.length) 0 (by omega)
  rw [← List.range_eq_range'] at this
  exact this
/-! Extend -/
def ext (vs rs us : List Int) : List Int × List Int × Int := if valid vs rs = 0 then if asc us = 0 then if ((all2 vs us).length : Int) > 10 then ([], [], 3) else (all2 vs us, ovr (all2 vs us) (hs vs rs), 0) else ([], [], asc us) else ([], [], valid vs rs)
theorem ex_ev {vs rs : List Int} (h : VT vs rs) (a : Nat) (ha : a < 2 ^ 24) : Ev (fun k => table_Extend_1_v1.f k (a : Int) vs rs) (hs vs rs a) :=
  Ev.bind (has_ev h a (Nat.lt_of_lt_of_le ha (by decide))) (Ev.now _)
theorem dext_ev (vs rs us : List Int) (hl : vs.length ≤ 1000000) (hr : (rs.length : Int) ≤ 9223372036854775807) (hu : us.length ≤ 1000000) : Ev (fun k => table_Extend.f k vs rs us) (ext vs rs us) := by
  refine Ev.bind (valid_ev vs rs (by omega) hr) (ev_ite (fun h1 => Ev.bind (asc_ev us (by omega)) (ev_ite (fun h2 => Ev.bind (all_ev vs us hl hu) (ev_ite (fun _ => Ev.now _) (fun h3 => ?_))) (fun _ => Ev.now _))) (fun _ => Ev.now _))
  have v1 := (valid_VT vs rs).1 h1
  have v2 := (asc_iff us).1 h2
  exact Ev.bind (o_ex_ev (all2_chn v1.vars v2.2).1 (by omega) vs rs _ (ex_ev v1)) (Ev.now _)
end Go.Proofs.Ythcfmdkhkikbcaa.Pure
