/- The plain law behind W: about the printed functions alone, no memory and no Go in it. -/
import Derived.Test.YthcfmdkhkikbcaaPureJ
import Derived.Test.YthcfmdkhkikbcaaT10
import Derived.Test.YthcfmdkhkikbcaaT13
import Derived.Test.YthcfmdkhkikbcaaT14
import Derived.Test.YthcfmdkhkikbcaaT18
import Derived.Test.YthcfmdkhkikbcaaT19
import Derived.Test.YthcfmdkhkikbcaaT20
import Derived.Test.YthcfmdkhkikbcaaT21
import Derived.Test.YthcfmdkhkikbcaaT22
namespace Go.Proofs.Ythcfmdkhkikbcaa.Pure
open Go.RowKit Go.Proofs.YthcfmdkhkikbcaaW.PrintWords Go.Proofs.Ythcfmdkhkikbcaa.T
set_option linter.unusedVariables false
set_option linter.unusedSimpArgs false
/-! ### xor -/
theorem bits_xor (a b : Nat) (ha : a < 2 ^ 62) (hb : b < 2 ^ 62) : Go.bits .xor .i64 (a : Int) (b : Int) = ((a ^^^ b : Nat) : Int) := by
  have h62 : (2 : Nat) ^ 62 = 4611686018427387904 := by decide
  have h64 : (2 : Nat) ^ IntKind.i64.bits = 18446744073709551616 := by decide
  have hx : a ^^^ b < 2 ^ 62 := Nat.xor_lt_two_pow ha hb
  have ha' : a % 2 ^ IntKind.i64.bits = a := Nat.mod_eq_of_lt (by omega)
  have hb' : b % 2 ^ IntKind.i64.bits = b := Nat.mod_eq_of_lt (by omega)
  simp only [Go.bits, BitVec.ofInt_natCast, BitVec.toNat_xor, BitVec.toNat_ofNat, ha', hb']
  rw [IntKind.wrap_i64]
  omega
/-! ### over -/
theorem o_un_loop {vs : List Int} (hc : Chn 24 none vs) (hl : vs.length ≤ 10) (a0 a1 b0 b1 : List Int) (t : Nat → Bool) (ht : ∀ a : Nat, a < 2 ^ 24 → Ev (fun k => table_combine_1_table_Union_1.f k (a : Int) a0 a1 b0 b1) (t a)) (V : List Int) (N : Nat) (hN : N ≤ 1024) : ∀ (d r : Nat) (acc : List Int), r + d = N → acc.length ≤ r →
    Ev (fun k => table_over_table_combine_1_table_Union_1.l0 k vs (N : Int) (r : Int) a0 a1 b0 b1 V acc) (V, acc ++ flt (fun r => t (asg vs r)) d r)
  | 0, r, acc, h, ha => Ev.step (f := fun _ => some (V, acc)) (fun k => by rw [table_over_table_combine_1_table_Union_1.l0, if_neg (by omega)]) (by simpa [flt] using Ev.now _)
  | d + 1, r, acc, h, ha => by
    have hw : wrap64 ((r : Int) + 1) = ((r + 1 : Nat) : Int) := by rw [w64_in _ (by omega)]; omega
    have hr : r < 2 ^ 60 := Nat.lt_of_le_of_lt (show r ≤ 1024 by omega) (by decide)
    refine Ev.step (fun k => by rw [table_over_table_combine_1_table_Union_1.l0, if_pos (by omega)]) (Ev.bind (asg_ev hc (by omega) r hr) (Ev.bind (ht _ (asg_lt hc r)) ?_))
    rw [flt, hw]
    by_cases e : t (asg vs r) = true
    · have ih := o_un_loop hc hl a0 a1 b0 b1 t ht V N hN d (r + 1) (acc ++ [(r : Int)]) (by omega) (by simp; omega)
      rw [if_pos e]
      rw [List.append_assoc, List.singleton_append] at ih
      exact ev_pos e (ev_pos (by omega) ih)
    · have ih := o_un_loop hc hl a0 a1 b0 b1 t ht V N hN d (r + 1) acc (by omega) (by omega)
      rw [if_neg e]
      exact ev_neg e ih
theorem o_un_ev {vs : List Int} (hc : Chn 24 none vs) (hl : vs.length ≤ 10) (a0 a1 b0 b1 : List Int) (t : Nat → Bool) (ht : ∀ a : Nat, a < 2 ^ 24 → Ev (fun k => table_combine_1_table_Union_1.f k (a : Int) a0 a1 b0 b1) (t a)) : Ev (fun k => table_over_table_combine_1_table_Union_1.f k vs a0 a1 b0 b1) (vs, ovr vs t) := by
  unfold table_over_table_combine_1_table_Union_1.f
  rw [clone_eq vs (by omega), shl1 vs.length (by omega)]
  exact o_un_loop hc hl a0 a1 b0 b1 t ht vs (2 ^ vs.length) (pow10 hl) (2 ^ vs.length) 0 [] (by omega) (by simp)
/-! ### over -/
theorem o_mi_loop {vs : List Int} (hc : Chn 24 none vs) (hl : vs.length ≤ 10) (a0 a1 b0 b1 : List Int) (t : Nat → Bool) (ht : ∀ a : Nat, a < 2 ^ 24 → Ev (fun k => table_combine_1_table_Minus_1.f k (a : Int) a0 a1 b0 b1) (t a)) (V : List Int) (N : Nat) (hN : N ≤ 1024) : ∀ (d r : Nat) (acc : List Int), r + d = N → acc.length ≤ r →
    Ev (fun k => table_over_table_combine_1_table_Minus_1.l0 k vs (N : Int) (r : Int) a0 a1 b0 b1 V acc) (V, acc ++ flt (fun r => t (asg vs r)) d r)
  | 0, r, acc, h, ha => Ev.step (f := fun _ => some (V, acc)) (fun k => by rw [table_over_table_combine_1_table_Minus_1.l0, if_neg (by omega)]) (by simpa [flt] using Ev.now _)
  | d + 1, r, acc, h, ha => by
    have hw : wrap64 ((r : Int) + 1) = ((r + 1 : Nat) : Int) := by rw [w64_in _ (by omega)]; omega
    have hr : r < 2 ^ 60 := Nat.lt_of_le_of_lt (show r ≤ 1024 by omega) (by decide)
    refine Ev.step (fun k => by rw [table_over_table_combine_1_table_Minus_1.l0, if_pos (by omega)]) (Ev.bind (asg_ev hc (by omega) r hr) (Ev.bind (ht _ (asg_lt hc r)) ?_))
    rw [flt, hw]
    by_cases e : t (asg vs r) = true
    · have ih := o_mi_loop hc hl a0 a1 b0 b1 t ht V N hN d (r + 1) (acc ++ [(r : Int)]) (by omega) (by simp; omega)
      rw [if_pos e]
      rw [List.append_assoc, List.singleton_append] at ih
      exact ev_pos e (ev_pos (by omega) ih)
    · have ih := o_mi_loop hc hl a0 a1 b0 b1 t ht V N hN d (r + 1) acc (by omega) (by omega)
      rw [if_neg e]
      exact ev_neg e ih
theorem o_mi_ev {vs : List Int} (hc : Chn 24 none vs) (hl : vs.length ≤ 10) (a0 a1 b0 b1 : List Int) (t : Nat → Bool) (ht : ∀ a : Nat, a < 2 ^ 24 → Ev (fun k => table_combine_1_table_Minus_1.f k (a : Int) a0 a1 b0 b1) (t a)) : Ev (fun k => table_over_table_combine_1_table_Minus_1.f k vs a0 a1 b0 b1) (vs, ovr vs t) := by
  unfold table_over_table_combine_1_table_Minus_1.f
  rw [clone_eq vs (by omega), shl1 vs.length (by omega)]
  exact o_mi_loop hc hl a0 a1 b0 b1 t ht vs (2 ^ vs.length) (pow10 hl) (2 ^ vs.length) 0 [] (by omega) (by simp)
/-! ### Both, two, Join, Union, Minus -/
def bth (a b : List Int) : List Int := flt (fun m => decide ((m : Int) ∈ a) || decide ((m : Int) ∈ b)) 24 0
theorem bth_all {a b : List Int} (ha : Chn 24 none a) (hb : Chn 24 none b) : bth a b = all2 a b := by
  have hc := flt_chn (fun m => decide ((m : Int) ∈ a) || decide ((m : Int) ∈ b)) 24 0 none (fun q hq => by cases hq)
  refine Chn.same hc (all2_chn ha hb).1 (fun n => ?_)
  rw [(all2_chn ha hb).2]
  unfold bth
  rw [flt_mem]
  constructor
  · rintro ⟨m, _, _, h, rfl⟩
    simpa using h
  · intro h
    have hn : 0 ≤ n ∧ n < 24 := by
      rcases h with h | h
      · have := ha.mem n h; omega
      · have := hb.mem n h; omega
    refine ⟨n.toNat, by omega, by omega, ?_, nat_of hn.1⟩
    rw [← nat_of hn.1]
    simpa using h
theorem both_loop (a b : List Int) (ha : a.length ≤ 1000000) (hb : b.length ≤ 1000000) : ∀ (d i : Nat) (acc : List Int), i + d = 24 → acc.length ≤ i → Ev (fun k => ancepsref38_Both.l0 k a b acc i) (acc ++ flt (fun m => decide ((m : Int) ∈ a) || decide ((m : Int) ∈ b)) d i)
  | 0, i, acc, h, hl => Ev.step (f := fun _ => some acc) (fun k => by rw [ancepsref38_Both.l0, if_neg (by omega)]) (by simpa [flt] using Ev.now _)
  | d + 1, i, acc, h, hl => by
    have hw : wrap64 ((i : Int) + 1) = ((i + 1 : Nat) : Int) := by rw [w64_in _ (by omega)]; omega
    have ih1 := both_loop a b ha hb d (i + 1) (acc ++ [(i : Int)]) (by omega) (by simp; omega)
    have ih2 := both_loop a b ha hb d (i + 1) acc (by omega) (by omega)
    rw [List.append_assoc, List.singleton_append] at ih1
    refine Ev.step (fun k => by rw [ancepsref38_Both.l0, if_pos (by omega), hw]) (Ev.bind (in_ev a (by omega) i) ?_)
    rw [flt]
    by_cases e : ((i : Int) ∈ a)
    · rw [if_pos (by simp [e])]
      exact ev_pos (decide_eq_true e) (ev_pos (by omega) ih1)
    · refine ev_neg (by simpa using e) (Ev.bind (in_ev b (by omega) i) ?_)
      by_cases e2 : ((i : Int) ∈ b)
      · rw [if_pos (by simp [e2])]
        exact ev_pos (decide_eq_true e2) (ev_pos (by omega) ih1)
      · rw [if_neg (by simp [e, e2])]
        exact ev_neg (by simpa using e2) ih2
theorem both_ev {a b : List Int} (ha : Chn 24 none a) (hb : Chn 24 none b) (hla : a.length ≤ 1000000) (hlb : b.length ≤ 1000000) : Ev (fun k => ancepsref38_Both.f k a b) (all2 a b) := by
  have := both_loop a b hla hlb 24 0 [] (by omega) (by simp)
  rw [List.nil_append] at this
  rw [← bth_all ha hb]
  exact this
def twos (a b c d : List Int) : List Int × Int := if valid a b = 0 then if valid c d = 0 then if ((all2 a c).length : Int) > 10 then ([], 3) else (all2 a c, 0) else ([], valid c d) else ([], valid a b)
theorem two_ev (a b c d : List Int) (ha : a.length ≤ 1000000) (hb : b.length ≤ 1000000) (hc : c.length ≤ 1000000) (hd : d.length ≤ 1000000) : Ev (fun k => ancepsref38_two.f k a b c d) (twos a b c d) := by
  refine Ev.bind (rvalid_ev a b (by omega) (by omega)) (ev_ite (fun h1 => Ev.bind (rvalid_ev c d (by omega) (by omega)) (ev_ite (fun h2 => ?_) (fun _ => Ev.now _))) (fun _ => Ev.now _))
  have v1 := (valid_VT a b).1 h1
  have v2 := (valid_VT c d).1 h2
  exact Ev.bind (both_ev v1.vars v2.vars ha hc) (ev_ite (fun _ => Ev.now _) (fun _ => Ev.now _))
theorem rholds_ev {vs rs : List Int} (h : VT vs rs) (a : Nat) : Ev (fun k => ancepsref38_Holds.f k vs rs (a : Int)) (hs vs rs a) := by
  have h1 := h.rows_len
  have h2 := h.len
  exact Ev.bind (rrow_ev vs h.vars' (by omega) a) (Ev.bind (in_ev rs (by omega) _) (Ev.now _))
theorem rjoin_loop {a b c d : List Int} (h1 : VT a b) (h2 : VT c d) {us : List Int} (hu : Chn 24 none us) (hul : us.length ≤ 10) (V : List Int) : ∀ (e r : Nat) (acc : List Int), r + e = 2 ^ us.length → acc.length ≤ r →
    Ev (fun k => ancepsref38_Join.l0 k us r a b c d V acc) (V, acc ++ flt (fun r => hs a b (asg us r) && hs c d (asg us r)) e r, 0)
  | 0, r, acc, h, ha => by
    have hs1 := shl1 us.length (by omega)
    exact Ev.step (f := fun _ => some (V, acc, 0)) (fun k => by rw [ancepsref38_Join.l0, hs1, if_neg (by omega)]) (by simpa [flt] using Ev.now _)
  | e + 1, r, acc, h, ha => by
    have hs1 := shl1 us.length (by omega)
    have hp := pow10 hul
    have hw : wrap64 ((r : Int) + 1) = ((r + 1 : Nat) : Int) := by rw [w64_in _ (by omega)]; omega
    have ih1 := rjoin_loop h1 h2 hu hul V e (r + 1) (acc ++ [(r : Int)]) (by omega) (by simp; omega)
    have ih2 := rjoin_loop h1 h2 hu hul V e (r + 1) acc (by omega) (by omega)
    rw [List.append_assoc, List.singleton_append] at ih1
    refine Ev.step (fun k => by rw [ancepsref38_Join.l0, hs1, if_pos (by omega), hw]) (Ev.bind (rasg_ev hu (by omega) r) (Ev.bind (rholds_ev h1 _) ?_))
    rw [flt]
    by_cases e1 : hs a b (asg us r) = true
    · refine ev_pos e1 (Ev.bind (rholds_ev h2 _) ?_)
      by_cases e2 : hs c d (asg us r) = true
      · rw [if_pos (by rw [e1, e2]; rfl)]
        exact ev_pos e2 (ev_pos (by omega) ih1)
      · rw [if_neg (by rw [e1]; simpa using e2)]
        exact ev_neg e2 ih2
    · rw [if_neg (by rw [Bool.not_eq_true] at e1; rw [e1]; simp)]
      exact ev_neg e1 ih2
theorem rjoin_ev (a b c d : List Int) (ha : a.length ≤ 1000000) (hb : b.length ≤ 1000000) (hc : c.length ≤ 1000000) (hd : d.length ≤ 1000000) : Ev (fun k => ancepsref38_Join.f k a b c d) (cmb (fun x y => x && y) a b c d) := by
  have h := two_ev a b c d ha hb hc hd
  unfold twos at h
  unfold cmb
  by_cases h1 : valid a b = 0
  · rw [if_pos h1] at h ⊢
    by_cases h2 : valid c d = 0
    · rw [if_pos h2] at h ⊢
      by_cases h3 : ((all2 a c).length : Int) > 10
      · rw [if_pos h3] at h ⊢
        exact Ev.bind h (ev_neg (by decide) (Ev.now _))
      · rw [if_neg h3] at h ⊢
        have v1 := (valid_VT a b).1 h1
        have v2 := (valid_VT c d).1 h2
        have hj := rjoin_loop v1 v2 (all2_chn v1.vars v2.vars).1 (by omega) (all2 a c) (2 ^ (all2 a c).length) 0 [] (by omega) (by simp)
        rw [List.nil_append] at hj
        exact Ev.bind h (ev_pos rfl hj)
    · rw [if_neg h2] at h ⊢
      exact Ev.bind h (ev_neg h2 (Ev.now _))
  · rw [if_neg h1] at h ⊢
    exact Ev.bind h (ev_neg h1 (Ev.now _))
theorem runion_loop {a b c d : List Int} (h1 : VT a b) (h2 : VT c d) {us : List Int} (hu : Chn 24 none us) (hul : us.length ≤ 10) (V : List Int) : ∀ (e r : Nat) (acc : List Int), r + e = 2 ^ us.length → acc.length ≤ r →
    Ev (fun k => ancepsref38_Union.l0 k us r a b c d V acc) (V, acc ++ flt (fun r => hs a b (asg us r) || hs c d (asg us r)) e r, 0)
  | 0, r, acc, h, ha => by
    have hs1 := shl1 us.length (by omega)
    exact Ev.step (f := fun _ => some (V, acc, 0)) (fun k => by rw [ancepsref38_Union.l0, hs1, if_neg (by omega)]) (by simpa [flt] using Ev.now _)
  | e + 1, r, acc, h, ha => by
    have hs1 := shl1 us.length (by omega)
    have hp := pow10 hul
    have hw : wrap64 ((r : Int) + 1) = ((r + 1 : Nat) : Int) := by rw [w64_in _ (by omega)]; omega
    have ih1 := runion_loop h1 h2 hu hul V e (r + 1) (acc ++ [(r : Int)]) (by omega) (by simp; omega)
    have ih2 := runion_loop h1 h2 hu hul V e (r + 1) acc (by omega) (by omega)
    rw [List.append_assoc, List.singleton_append] at ih1
    refine Ev.step (fun k => by rw [ancepsref38_Union.l0, hs1, if_pos (by omega), hw]) (Ev.bind (rasg_ev hu (by omega) r) (Ev.bind (rholds_ev h1 _) ?_))
    rw [flt]
    by_cases e1 : hs a b (asg us r) = true
    · rw [if_pos (by rw [e1]; rfl)]
      exact ev_pos e1 (ev_pos (by omega) ih1)
    · refine ev_neg e1 (Ev.bind (rholds_ev h2 _) ?_)
      rw [Bool.not_eq_true] at e1
      by_cases e2 : hs c d (asg us r) = true
      · rw [if_pos (by rw [e1, e2]; rfl)]
        exact ev_pos e2 (ev_pos (by omega) ih1)
      · rw [if_neg (by rw [e1]; simpa using e2)]
        exact ev_neg e2 ih2
theorem runion_ev (a b c d : List Int) (ha : a.length ≤ 1000000) (hb : b.length ≤ 1000000) (hc : c.length ≤ 1000000) (hd : d.length ≤ 1000000) : Ev (fun k => ancepsref38_Union.f k a b c d) (cmb (fun x y => x || y) a b c d) := by
  have h := two_ev a b c d ha hb hc hd
  unfold twos at h
  unfold cmb
  by_cases h1 : valid a b = 0
  · rw [if_pos h1] at h ⊢
    by_cases h2 : valid c d = 0
    · rw [if_pos h2] at h ⊢
      by_cases h3 : ((all2 a c).length : Int) > 10
      · rw [if_pos h3] at h ⊢
        exact Ev.bind h (ev_neg (by decide) (Ev.now _))
      · rw [if_neg h3] at h ⊢
        have v1 := (valid_VT a b).1 h1
        have v2 := (valid_VT c d).1 h2
        have hj := runion_loop v1 v2 (all2_chn v1.vars v2.vars).1 (by omega) (all2 a c) (2 ^ (all2 a c).length) 0 [] (by omega) (by simp)
        rw [List.nil_append] at hj
        exact Ev.bind h (ev_pos rfl hj)
    · rw [if_neg h2] at h ⊢
      exact Ev.bind h (ev_neg h2 (Ev.now _))
  · rw [if_neg h1] at h ⊢
    exact Ev.bind h (ev_neg h1 (Ev.now _))
theorem rminus_loop {a b c d : List Int} (h1 : VT a b) (h2 : VT c d) {us : List Int} (hu : Chn 24 none us) (hul : us.length ≤ 10) (V : List Int) : ∀ (e r : Nat) (acc : List Int), r + e = 2 ^ us.length → acc.length ≤ r →
    Ev (fun k => ancepsref38_Minus.l0 k us r a b c d V acc) (V, acc ++ flt (fun r => hs a b (asg us r) && !hs c d (asg us r)) e r, 0)
  | 0, r, acc, h, ha => by
    have hs1 := shl1 us.length (by omega)
    exact Ev.step (f := fun _ => some (V, acc, 0)) (fun k => by rw [ancepsref38_Minus.l0, hs1, if_neg (by omega)]) (by simpa [flt] using Ev.now _)
  | e + 1, r, acc, h, ha => by
    have hs1 := shl1 us.length (by omega)
    have hp := pow10 hul
    have hw : wrap64 ((r : Int) + 1) = ((r + 1 : Nat) : Int) := by rw [w64_in _ (by omega)]; omega
    have ih1 := rminus_loop h1 h2 hu hul V e (r + 1) (acc ++ [(r : Int)]) (by omega) (by simp; omega)
    have ih2 := rminus_loop h1 h2 hu hul V e (r + 1) acc (by omega) (by omega)
    rw [List.append_assoc, List.singleton_append] at ih1
    refine Ev.step (fun k => by rw [ancepsref38_Minus.l0, hs1, if_pos (by omega), hw]) (Ev.bind (rasg_ev hu (by omega) r) (Ev.bind (rholds_ev h1 _) ?_))
    rw [flt]
    by_cases e1 : hs a b (asg us r) = true
    · refine ev_pos e1 (Ev.bind (rholds_ev h2 _) ?_)
      by_cases e2 : hs c d (asg us r) = true
      · rw [if_neg (by rw [e1, e2]; decide)]
        exact ev_pos e2 ih2
      · rw [Bool.not_eq_true] at e2
        rw [if_pos (by rw [e1, e2]; rfl)]
        exact ev_neg (by rw [e2]; decide) (ev_pos (by omega) ih1)
    · rw [Bool.not_eq_true] at e1
      rw [if_neg (by rw [e1]; simp)]
      exact ev_neg (by rw [e1]; decide) ih2
theorem rminus_ev (a b c d : List Int) (ha : a.length ≤ 1000000) (hb : b.length ≤ 1000000) (hc : c.length ≤ 1000000) (hd : d.length ≤ 1000000) : Ev (fun k => ancepsref38_Minus.f k a b c d) (cmb (fun x y => x && !y) a b c d) := by
  have h := two_ev a b c d ha hb hc hd
  unfold twos at h
  unfold cmb
  by_cases h1 : valid a b = 0
  · rw [if_pos h1] at h ⊢
    by_cases h2 : valid c d = 0
    · rw [if_pos h2] at h ⊢
      by_cases h3 : ((all2 a c).length : Int) > 10
      · rw [if_pos h3] at h ⊢
        exact Ev.bind h (ev_neg (by decide) (Ev.now _))
      · rw [if_neg h3] at h ⊢
        have v1 := (valid_VT a b).1 h1
        have v2 := (valid_VT c d).1 h2
        have hj := rminus_loop v1 v2 (all2_chn v1.vars v2.vars).1 (by omega) (all2 a c) (2 ^ (all2 a c).length) 0 [] (by omega) (by simp)
        rw [List.nil_append] at hj
        exact Ev.bind h (ev_pos rfl hj)
    · rw [if_neg h2] at h ⊢
      exact Ev.bind h (ev_neg h2 (Ev.now _))
  · rw [if_neg h1] at h ⊢
    exact Ev.bind h (ev_neg h1 (Ev.now _))
/-! The program. -/
theorem un_ev {a b c d : List Int} (h1 : VT a b) (h2 : VT c d) (x : Nat) (hx : x < 2 ^ 24) : Ev (fun k => table_combine_1_table_Union_1.f k (x : Int) a b c d) (hs a b x || hs c d x) := by
  have hx2 : x < 2 ^ 60 := Nat.lt_of_lt_of_le hx (by decide)
  refine Ev.bind (has_ev h1 x hx2) (Ev.bind (has_ev h2 x hx2) ?_)
  unfold table_Union_1.f
  cases hs a b x
  · exact Ev.now _
  · exact Ev.now _
theorem union_ev (a b c d : List Int) (ha : a.length ≤ 1000000) (hb : b.length ≤ 1000000) (hc : c.length ≤ 1000000) (hd : d.length ≤ 1000000) : Ev (fun k => table_Union.f k a b c d) (cmb (fun x y => x || y) a b c d) := by
  have key : Ev (fun k => table_combine_table_Union_1.f k a b c d) (cmb (fun x y => x || y) a b c d) := by
    refine Ev.bind (valid_ev a b (by omega) (by omega)) (ev_ite (fun h1 => Ev.bind (valid_ev c d (by omega) (by omega)) (ev_ite (fun h2 => ?_) (fun _ => Ev.now _))) (fun _ => Ev.now _))
    have v1 := (valid_VT a b).1 h1
    have v2 := (valid_VT c d).1 h2
    refine Ev.bind (all_ev a c ha hc) (ev_ite (fun _ => Ev.now _) (fun h3 => ?_))
    exact Ev.bind (o_un_ev (all2_chn v1.vars v2.vars).1 (by omega) a b c d _ (un_ev v1 v2)) (Ev.now _)
  exact Ev.bind key (Ev.now _)
theorem mi_ev {a b c d : List Int} (h1 : VT a b) (h2 : VT c d) (x : Nat) (hx : x < 2 ^ 24) : Ev (fun k => table_combine_1_table_Minus_1.f k (x : Int) a b c d) (hs a b x && !hs c d x) := by
  have hx2 : x < 2 ^ 60 := Nat.lt_of_lt_of_le hx (by decide)
  refine Ev.bind (has_ev h1 x hx2) (Ev.bind (has_ev h2 x hx2) ?_)
  unfold table_Minus_1.f
  cases hs a b x
  · exact Ev.now _
  · exact Ev.now _
theorem minus_ev (a b c d : List Int) (ha : a.length ≤ 1000000) (hb : b.length ≤ 1000000) (hc : c.length ≤ 1000000) (hd : d.length ≤ 1000000) : Ev (fun k => table_Minus.f k a b c d) (cmb (fun x y => x && !y) a b c d) := by
  have key : Ev (fun k => table_combine_table_Minus_1.f k a b c d) (cmb (fun x y => x && !y) a b c d) := by
    refine Ev.bind (valid_ev a b (by omega) (by omega)) (ev_ite (fun h1 => Ev.bind (valid_ev c d (by omega) (by omega)) (ev_ite (fun h2 => ?_) (fun _ => Ev.now _))) (fun _ => Ev.now _))
    have v1 := (valid_VT a b).1 h1
    have v2 := (valid_VT c d).1 h2
    refine Ev.bind (all_ev a c ha hc) (ev_ite (fun _ => Ev.now _) (fun h3 => ?_))
    exact Ev.bind (o_mi_ev (all2_chn v1.vars v2.vars).1 (by omega) a b c d _ (mi_ev v1 v2)) (Ev.now _)
  exact Ev.bind key (Ev.now _)
theorem cmb_small (t : Bool → Bool → Bool) (a b c d : List Int) : (cmb t a b c d).1.length ≤ 1024 ∧ (cmb t a b c d).2.1.length ≤ 1024 := by
  unfold cmb
  by_cases h1 : valid a b = 0
  · rw [if_pos h1]
    by_cases h2 : valid c d = 0
    · rw [if_pos h2]
      by_cases h3 : ((all2 a c).length : Int) > 10
      · rw [if_pos h3]; simp
      · rw [if_neg h3]
        have hp := pow10 (n := (all2 a c).length) (by omega)
        have ho := ovr_len (all2 a c) (fun x => t (hs a b x) (hs c d x))
        exact ⟨show (all2 a c).length ≤ 1024 by omega, Nat.le_trans ho hp⟩
    · rw [if_neg h2]; simp
  · rw [if_neg h1]; simp
/-! ### The reference's Vital -/
theorem xor_flip (a : Nat) (v : Int) (ha : a < 2 ^ 24) (h0 : 0 ≤ v) (h1 : v < 24) : Go.bits .xor .i64 (a : Int) (shl .i64 1 v) = ((flip a v : Nat) : Int) := by
  have hip : (2 : Nat) ^ v.toNat ≤ 2 ^ 24 := Nat.pow_le_pow_right (by decide) (by omega)
  have e := shl1 v.toNat (by omega)
  rw [← nat_of h0] at e
  have hf : flip a v < 2 ^ 25 := Nat.xor_lt_two_pow (Nat.lt_of_lt_of_le ha (by decide)) (Nat.lt_of_le_of_lt hip (by decide))
  rw [e]
  have key := bits_xor a (2 ^ v.toNat) (Nat.lt_of_lt_of_le ha (by decide)) (Nat.lt_of_le_of_lt hip (by decide))
  exact key
theorem matters_loop {vs rs : List Int} (h : VT vs rs) {v : Int} (h0 : 0 ≤ v) (h1 : v < 24) : ∀ (d r : Nat), r + d = 2 ^ vs.length → Ev (fun k => ancepsref38_Matters.l0 k v r vs rs) ((List.range' r d).any fun r => hs vs rs (asg vs r) != hs vs rs (flip (asg vs r) v))
  | 0, r, hd => by
    have hs1 := shl1 vs.length (by have := h.len; omega)
    refine Ev.step (f := fun _ => some false) (fun k => by rw [ancepsref38_Matters.l0, hs1, if_neg (by omega)]) ?_
    exact Ev.now _
  | d + 1, r, hd => by
    have hl := h.len
    have hs1 := shl1 vs.length (by omega)
    have hp := pow10 hl
    have hw : wrap64 ((r : Int) + 1) = ((r + 1 : Nat) : Int) := by rw [w64_in _ (by omega)]; omega
    have ih := matters_loop h h0 h1 d (r + 1) (by omega)
    rw [List.range'_succ, List.any_cons]
    refine Ev.step (fun k => by rw [ancepsref38_Matters.l0, hs1, if_pos (by omega), hw]) (Ev.bind (rasg_ev h.vars (by omega) r) (Ev.bind (rholds_ev h _) (ev_pos h0 ?_)))
    rw [xor_flip _ v (asg_lt h.vars r) h0 h1]
    refine Ev.bind (rholds_ev h _) ?_
    by_cases e : (hs vs rs (asg vs r) != hs vs rs (flip (asg vs r) v)) = true
    · rw [e, Bool.true_or]; exact ev_pos rfl (Ev.now _)
    · rw [Bool.not_eq_true] at e
      rw [e, Bool.false_or]; exact ev_neg (by simp) ih
theorem matters_ev {vs rs : List Int} (h : VT vs rs) {v : Int} (h0 : 0 ≤ v) (h1 : v < 24) : Ev (fun k => ancepsref38_Matters.f k vs rs v) (mat vs rs v) := by
  have := matters_loop h h0 h1 (2 ^ vs.length) 0 (by omega)
  rw [← List.range_eq_range'] at this
  exact this
theorem rvital_loop {vs rs : List Int} (h : VT vs rs) : ∀ (d i : Nat) (acc : List Int), i + d = vs.length → acc.length ≤ i → (∀ w, w ∈ acc → 0 ≤ w ∧ w < 24) →
    Ev (fun k => ancepsref38_Vital.l0 k acc i vs rs) (acc ++ (vs.drop i).filter (mat vs rs), prj vs rs (acc ++ (vs.drop i).filter (mat vs rs)), 0)
  | 0, i, acc, hd, ha, hp => by
    have hl := h.len
    have hr := h.rows_len
    rw [List.drop_eq_nil_of_le (by omega), List.filter_nil, List.append_nil]
    refine Ev.step (fun k => by rw [ancepsref38_Vital.l0, if_neg (by omega)]) (Ev.bind (proj_ev h.vars (by omega) (fun r hr2 => (h.row_of hr2).1) (by omega) hp (by omega)) ?_)
    exact Ev.now _
  | d + 1, i, acc, hd, ha, hp => by
    have hl := h.len
    have hi : i < vs.length := by omega
    have hw := wrap_succ i vs.length hi (by omega)
    have hv := h.vars' _ (rd_mem vs i hi)
    rw [rd_at vs i hi, List.filter_cons]
    refine Ev.step (fun k => by rw [ancepsref38_Vital.l0, if_pos (by omega), if_pos (by omega), hw]) (Ev.bind (matters_ev h hv.1 hv.2) ?_)
    by_cases e : mat vs rs (rd vs i) = true
    · have ih := rvital_loop h d (i + 1) (acc ++ [rd vs i]) (by omega) (by simp; omega) (fun w hw2 => by
        rcases List.mem_append.1 hw2 with h2 | h2
        · exact hp w h2
        · rw [List.mem_singleton.1 h2]; exact hv)
      rw [List.append_assoc, List.singleton_append] at ih
      rw [if_pos e]
      exact ev_pos e (ev_pos (by omega) ih)
    · have ih := rvital_loop h d (i + 1) acc (by omega) (by omega) hp
      rw [if_neg e]
      exact ev_neg e ih
def vits (vs rs : List Int) : List Int × List Int × Int := if valid vs rs = 0 then ((vit vs rs).1, (vit vs rs).2, 0) else ([], [], valid vs rs)
theorem rvital_ev (vs rs : List Int) (hl : (vs.length : Int) ≤ 9223372036854775807) (hr : (rs.length : Int) ≤ 9223372036854775807) : Ev (fun k => ancepsref38_Vital.f k vs rs) (vits vs rs) := by
  refine Ev.bind (rvalid_ev vs rs hl hr) (ev_ite (fun h => ?_) (fun _ => Ev.now _))
  have hv := (valid_VT vs rs).1 h
  have := rvital_loop hv vs.length 0 [] (by omega) (by simp) (fun w hw => by simp at hw)
  rw [List.drop_zero, List.nil_append] at this
  exact this
theorem prj_len (vs rs us : List Int) : (prj vs rs us).length ≤ 2 ^ us.length := flt_len _ _ _
theorem vits_small (vs rs : List Int) : (vits vs rs).1.length ≤ 1024 ∧ (vits vs rs).2.1.length ≤ 1024 := by
  unfold vits
  by_cases h : valid vs rs = 0
  · have hv := ((valid_VT vs rs).1 h).len
    have hf := List.length_filter_le (mat vs rs) vs
    have hp := prj_len vs rs (vs.filter (mat vs rs))
    have := pow10 (Nat.le_trans hf hv)
    rw [if_pos h]
    exact ⟨Nat.le_trans hf (by omega), Nat.le_trans hp this⟩
  · rw [if_neg h]; simp
end Go.Proofs.Ythcfmdkhkikbcaa.Pure
