/- The plain law behind W2: about the printed functions alone, no memory and no Go in it. -/
import Derived.Test.YthcfmdkhkikbcaaPureJ
import Derived.Test.YthcfmdkhkikbcaaT10
import Derived.Test.YthcfmdkhkikbcaaT18
import Derived.Test.YthcfmdkhkikbcaaT19
import Derived.Test.YthcfmdkhkikbcaaT20
namespace Go.Proofs.Ythcfmdkhkikbcaa.Pure
open Go.RowKit Go.Proofs.YthcfmdkhkikbcaaW.PrintWords Go.Proofs.Ythcfmdkhkikbcaa.T
set_option linter.unusedVariables false
set_option linter.unusedSimpArgs false
/-! ### over -/
theorem o_un_loop {vs : List Int} (hc : Chn 24 none vs) (hl : vs.length ≤ 10) (a0 a1 b0 b1 : List Int) (t : Nat → Bool) (ht : ∀ a : Nat, a < 2 ^ 24 → Ev (fun k => table_combine_1_table_Union_1.f k (a : Int) a0 a1 b0 b1) (t a)) (V : List Int) (N : Nat) (hN : N ≤ 1024) : ∀ (d r : Nat) (acc : List Int), r + d = N → acc.length ≤ r →
    Ev (fun k => table_over_table_combine_1_table_Union_1.l0 k vs (N : Int) (r : Int) a0 a1 b0 b1 V acc) (V, acc ++ flt (fun r => t (asg vs r)) d r)
  | 0, r, acc, h, ha => Ev.step (f := fun _ => some (V, acc)) (fun k => by rw [table_over_table_combine_1_table_Union_1.l0, if_neg (by omega)]) (by simpa [flt] using Ev.now _)
  | d + 1, r, acc, h, ha => by
    have hw : wrap64 ((r : Int) + 1) = ((r + 1 : Nat) : Int) := by rw [w64_in _ (by omega)]; omega
    have hr : r < 2 ^ 60 := Nat.lt_of_le_of_lt (show r ≤ 1024 by omega) (by decide)
    refine Ev.step (fun k => by rw [table_over_table_combine_1_table_Union_1.l0, if_pos (by omega)]) (Ev.bind (asg_ev hc (by omega) r hr) (Ev.bind (ht _ (asg_lt hc r)) ?_))
    rw [flt, hw]
    by_cases e : t (asg vs r) = true
    · have ih := o_un_loop hc hl a0 a1 b0 b1 t ht V N hN d (r + 1) (acc ++ [(r : Int)]) (by omega) (by simp; omega)
      rw [if_pos e]
      rw [List.append_assoc, List.singleton_append] at ih
      exact ev_pos e (ev_pos (by omega) ih)
    · have ih := o_un_loop hc hl a0 a1 b0 b1 t ht V N hN d (r + 1) acc (by omega) (by omega)
      rw [if_neg e]
      exact ev_neg e ih
theorem o_un_ev {vs : List Int} (hc : Chn 24 none vs) (hl : vs.length ≤ 10) (a0 a1 b0 b1 : List Int) (t : Nat → Bool) (ht : ∀ a : Nat, a < 2 ^ 24 → Ev (fun k => table_combine_1_table_Union_1.f k (a : Int) a0 a1 b0 b1) (t a)) : Ev (fun k => table_over_table_combine_1_table_Union_1.f k vs a0 a1 b0 b1) (vs, ovr vs t) := by
  unfold table_over_table_combine_1_table_Union_1.f
  rw [clone_eq vs (by omega), shl1 vs.length (by omega)]
  exact o_un_loop hc hl a0 a1 b0 b1 t ht vs (2 ^ vs.length) (pow10 hl) (2 ^ vs.length) 0 [] (by omega) (by simp)
/-! ### over -/
theorem o_mi_loop {vs : List Int} (hc : Chn 24 none vs) (hl : vs.length ≤ 10) (a0 a1 b0 b1 : List Int) (t : Nat → Bool) (ht : ∀ a : Nat, a < 2 ^ 24 → Ev (fun k => table_combine_1_table_Minus_1.f k (a : Int) a0 a1 b0 b1) (t a)) (V : List Int) (N : Nat) (hN : N ≤ 1024) : ∀ (d r : Nat) (acc : List Int), r + d = N → acc.length ≤ r →
    Ev (fun k => table_over_table_combine_1_table_Minus_1.l0 k vs (N : Int) (r : Int) a0 a1 b0 b1 V acc) (V, acc ++ flt (fun r => t (asg vs r)) d r)
  | 0, r, acc, h, ha => Ev.step (f := fun _ => some (V, acc)) (fun k => by rw [table_over_table_combine_1_table_Minus_1.l0, if_neg (by omega)]) (by simpa [flt] using Ev.now _)
  | d + 1, r, acc, h, ha => by
    have hw : wrap64 ((r : Int) + 1) = ((r + 1 : Nat) : Int) := by rw [w64_in _ (by omega)]; omega
    have hr : r < 2 ^ 60 := Nat.lt_of_le_of_lt (show r ≤ 1024 by omega) (by decide)
    refine Ev.step (fun k => by rw [table_over_table_combine_1_table_Minus_1.l0, if_pos (by omega)]) (Ev.bind (asg_ev hc (by omega) r hr) (Ev.bind (ht _ (asg_lt hc r)) ?_))
    rw [flt, hw]
    by_cases e : t (asg vs r) = true
    · have ih := o_mi_loop hc hl a0 a1 b0 b1 t ht V N hN d (r + 1) (acc ++ [(r : Int)]) (by omega) (by simp; omega)
      rw [if_pos e]
      rw [List.append_assoc, List.singleton_append] at ih
      exact ev_pos e (ev_pos (by omega) ih)
    · have ih := o_mi_loop hc hl a0 a1 b0 b1 t ht V N hN d (r + 1) acc (by omega) (by omega)
      rw [if_neg e]
      exact ev_neg e ih
theorem o_mi_ev {vs : List Int} (hc : Chn 24 none vs) (hl : vs.length ≤ 10) (a0 a1 b0 b1 : List Int) (t : Nat → Bool) (ht : ∀ a : Nat, a < 2 ^ 24 → Ev (fun k => table_combine_1_table_Minus_1.f k (a : Int) a0 a1 b0 b1) (t a)) : Ev (fun k => table_over_table_combine_1_table_Minus_1.f k vs a0 a1 b0 b1) (vs, ovr vs t) := by
  unfold table_over_table_combine_1_table_Minus_1.f
  rw [clone_eq vs (by omega), shl1 vs.length (by omega)]
  exact o_mi_loop hc hl a0 a1 b0 b1 t ht vs (2 ^ vs.length) (pow10 hl) (2 ^ vs.length) 0 [] (by omega) (by simp)
/-! ### Both, Holds, Union, Minus -/
def bth (a b : List Int) : List Int := flt (fun m => decide ((m : Int) ∈ a) || decide ((m : Int) ∈ b)) 24 0
theorem bth_all {a b : List Int} (ha : Chn 24 none a) (hb : Chn 24 none b) : bth a b = all2 a b := by
  have hc := flt_chn (fun m => decide ((m : Int) ∈ a) || decide ((m : Int) ∈ b)) 24 0 none (fun q hq => by cases hq)
  refine Chn.same hc (all2_chn ha hb).1 (fun n => ?_)
  rw [(all2_chn ha hb).2]
  unfold bth
  rw [flt_mem]
  constructor
  · rintro ⟨m, _, _, h, rfl⟩
    simpa using h
  · intro h
    have hn : 0 ≤ n ∧ n < 24 := by
      rcases h with h | h
      · have := ha.mem n h; omega
      · have := hb.mem n h; omega
    refine ⟨n.toNat, by omega, by omega, ?_, nat_of hn.1⟩
    rw [← nat_of hn.1]
    simpa using h
theorem both_loop (a b : List Int) (ha : a.length ≤ 1000000) (hb : b.length ≤ 1000000) : ∀ (d i : Nat) (acc : List Int), i + d = 24 → acc.length ≤ i → Ev (fun k => ancepsref38_Both.l0 k a b acc i) (acc ++ flt (fun m => decide ((m : Int) ∈ a) || decide ((m : Int) ∈ b)) d i)
  | 0, i, acc, h, hl => Ev.step (f := fun _ => some acc) (fun k => by rw [ancepsref38_Both.l0, if_neg (by omega)]) (by simpa [flt] using Ev.now _)
  | d + 1, i, acc, h, hl => by
    have hw : wrap64 ((i : Int) + 1) = ((i + 1 : Nat) : Int) := by rw [w64_in _ (by omega)]; omega
    have ih1 := both_loop a b ha hb d (i + 1) (acc ++ [(i : Int)]) (by omega) (by simp; omega)
    have ih2 := both_loop a b ha hb d (i + 1) acc (by omega) (by omega)
    rw [List.append_assoc, List.singleton_append] at ih1
    refine Ev.step (fun k => by rw [ancepsref38_Both.l0, if_pos (by omega), hw]) (Ev.bind (in_ev a (by omega) i) ?_)
    rw [flt]
    by_cases e : ((i : Int) ∈ a)
    · rw [if_pos (by simp [e])]
      exact ev_pos (decide_eq_true e) (ev_pos (by omega) ih1)
    · refine ev_neg (by simpa using e) (Ev.bind (in_ev b (by omega) i) ?_)
      by_cases e2 : ((i : Int) ∈ b)
      · rw [if_pos (by simp [e2])]
        exact ev_pos (decide_eq_true e2) (ev_pos (by omega) ih1)
      · rw [if_neg (by simp [e, e2])]
        exact ev_neg (by simpa using e2) ih2
theorem both_ev {a b : List Int} (ha : Chn 24 none a) (hb : Chn 24 none b) (hla : a.length ≤ 1000000) (hlb : b.length ≤ 1000000) : Ev (fun k => ancepsref38_Both.f k a b) (all2 a b) := by
  have := both_loop a b hla hlb 24 0 [] (by omega) (by simp)
  rw [List.nil_append] at this
  rw [← bth_all ha hb]
  exact this
theorem rholds_ev {vs rs : List Int} (h : VT vs rs) (a : Nat) : Ev (fun k => ancepsref38_Holds.f k vs rs (a : Int)) (hs vs rs a) := by
  have h1 := h.rows_len
  have h2 := h.len
  exact Ev.bind (rrow_ev vs h.vars' (by omega) a) (Ev.bind (in_ev rs (by omega) _) (Ev.now _))
/-! The program. -/
theorem un_ev {a b c d : List Int} (h1 : VT a b) (h2 : VT c d) (x : Nat) (hx : x < 2 ^ 24) : Ev (fun k => table_combine_1_table_Union_1.f k (x : Int) a b c d) (hs a b x || hs c d x) := by
  have hx2 : x < 2 ^ 60 := Nat.lt_of_lt_of_le hx (by decide)
  refine Ev.bind (has_ev h1 x hx2) (Ev.bind (has_ev h2 x hx2) ?_)
  unfold table_Union_1.f
  cases hs a b x
  · exact Ev.now _
  · exact Ev.now _
theorem union_ev (a b c d : List Int) (ha : a.length ≤ 1000000) (hb : b.length ≤ 1000000) (hc : c.length ≤ 1000000) (hd : d.length ≤ 1000000) : Ev (fun k => table_Union.f k a b c d) (cmb (fun x y => x || y) a b c d) := by
  have key : Ev (fun k => table_combine_table_Union_1.f k a b c d) (cmb (fun x y => x || y) a b c d) := by
    refine Ev.bind (valid_ev a b (by omega) (by omega)) (ev_ite (fun h1 => Ev.bind (valid_ev c d (by omega) (by omega)) (ev_ite (fun h2 => ?_) (fun _ => Ev.now _))) (fun _ => Ev.now _))
    have v1 := (valid_VT a b).1 h1
    have v2 := (valid_VT c d).1 h2
    refine Ev.bind (all_ev a c ha hc) (ev_ite (fun _ => Ev.now _) (fun h3 => ?_))
    exact Ev.bind (o_un_ev (all2_chn v1.vars v2.vars).1 (by omega) a b c d _ (un_ev v1 v2)) (Ev.now _)
  exact Ev.bind key (Ev.now _)
theorem mi_ev {a b c d : List Int} (h1 : VT a b) (h2 : VT c d) (x : Nat) (hx : x < 2 ^ 24) : Ev (fun k => table_combine_1_table_Minus_1.f k (x : Int) a b c d) (hs a b x && !hs c d x) := by
  have hx2 : x < 2 ^ 60 := Nat.lt_of_lt_of_le hx (by decide)
  refine Ev.bind (has_ev h1 x hx2) (Ev.bind (has_ev h2 x hx2) ?_)
  unfold table_Minus_1.f
  cases hs a b x
  · exact Ev.now _
  · exact Ev.now _
theorem minus_ev (a b c d : List Int) (ha : a.length ≤ 1000000) (hb : b.length ≤ 1000000) (hc : c.length ≤ 1000000) (hd : d.length ≤ 1000000) : Ev (fun k => table_Minus.f k a b c d) (cmb (fun x y => x && !y) a b c d) := by
  have key : Ev (fun k => table_combine_table_Minus_1.f k a b c d) (cmb (fun x y => x && !y) a b c d) := by
    refine Ev.bind (valid_ev a b (by omega) (by omega)) (ev_ite (fun h1 => Ev.bind (valid_ev c d (by omega) (by omega)) (ev_ite (fun h2 => ?_) (fun _ => Ev.now _))) (fun _ => Ev.now _))
    have v1 := (valid_VT a b).1 h1
    have v2 := (valid_VT c d).1 h2
    refine Ev.bind (all_ev a c ha hc) (ev_ite (fun _ => Ev.now _) (fun h3 => ?_))
    exact Ev.bind (o_mi_ev (all2_chn v1.vars v2.vars).1 (by omega) a b c d _ (mi_ev v1 v2)) (Ev.now _)
  exact Ev.bind key (Ev.now _)
end Go.Proofs.Ythcfmdkhkikbcaa.Pure
