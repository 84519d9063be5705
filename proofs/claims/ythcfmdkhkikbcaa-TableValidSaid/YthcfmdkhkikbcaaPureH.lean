/- The plain law behind H: about the printed functions alone, no memory and no Go in it. -/
import Derived.Test.YthcfmdkhkikbcaaPureJ
import Derived.Test.YthcfmdkhkikbcaaT8
import Derived.Test.YthcfmdkhkikbcaaT10
import Derived.Test.YthcfmdkhkikbcaaT11
import Derived.Test.YthcfmdkhkikbcaaT13
import Derived.Test.YthcfmdkhkikbcaaT14
namespace Go.Proofs.Ythcfmdkhkikbcaa.Pure
open Go.RowKit Go.Proofs.YthcfmdkhkikbcaaW.PrintWords Go.Proofs.Ythcfmdkhkikbcaa.T
set_option linter.unusedVariables false
set_option linter.unusedSimpArgs false
/-! ### xor -/
theorem bits_xor (a b : Nat) (ha : a < 2 ^ 62) (hb : b < 2 ^ 62) : Go.bits .xor .i64 (a : Int) (b : Int) = ((a ^^^ b : Nat) : Int) := by
  have h62 : (2 : Nat) ^ 62 = 4611686018427387904 := by decide
  have h64 : (2 : Nat) ^ IntKind.i64.bits = 18446744073709551616 := by decide
  have hx : a ^^^ b < 2 ^ 62 := Nat.xor_lt_two_pow ha hb
  have ha' : a % 2 ^ IntKind.i64.bits = a := Nat.mod_eq_of_lt (by omega)
  have hb' : b % 2 ^ IntKind.i64.bits = b := Nat.mod_eq_of_lt (by omega)
  simp only [Go.bits, BitVec.ofInt_natCast, BitVec.toNat_xor, BitVec.toNat_ofNat, ha', hb']
  rw [IntKind.wrap_i64]
  omega
/-! ### Has and Vital -/
def hass (vs rs : List Int) (a : Int) : Bool × Int := if valid vs rs = 0 then if a < 0 then (false, 6) else if a ≥ 16777216 then (false, 6) else (hs vs rs a.toNat, 0) else (false, valid vs rs)
theorem dhas_ev (vs rs : List Int) (hl : (vs.length : Int) ≤ 9223372036854775807) (hr : (rs.length : Int) ≤ 9223372036854775807) (a : Int) : Ev (fun k => table_Has.f k vs rs a) (hass vs rs a) := by
  refine Ev.bind (valid_ev vs rs hl hr) (ev_ite (fun h => ev_ite (fun _ => Ev.now _) (fun h0 => ev_ite (fun _ => Ev.now _) (fun h1 => ?_))) (fun _ => Ev.now _))
  have hv := (valid_VT vs rs).1 h
  have h60 : (2 : Nat) ^ 60 = 1152921504606846976 := by decide
  have := has_ev hv a.toNat (by omega)
  rw [← nat_of (by omega)] at this
  exact Ev.bind this (Ev.now _)
theorem holds_ev {vs rs : List Int} (h : VT vs rs) (a : Nat) : Ev (fun k => ancepsref38_Holds.f k vs rs (a : Int)) (hs vs rs a) := by
  have h1 := h.rows_len
  have h2 := h.len
  exact Ev.bind (rrow_ev vs h.vars' (by omega) a) (Ev.bind (in_ev rs (by omega) _) (Ev.now _))
theorem rhas_ev (vs rs : List Int) (hl : (vs.length : Int) ≤ 9223372036854775807) (hr : (rs.length : Int) ≤ 9223372036854775807) (a : Int) : Ev (fun k => ancepsref38_Has.f k vs rs a) (hass vs rs a) := by
  refine Ev.bind (rvalid_ev vs rs hl hr) (ev_ite (fun h => ev_ite (fun _ => Ev.now _) (fun h0 => ev_ite (fun _ => Ev.now _) (fun h1 => ?_))) (fun _ => Ev.now _))
  have hv := (valid_VT vs rs).1 h
  have := holds_ev hv a.toNat
  rw [← nat_of (by omega)] at this
  exact Ev.bind this (Ev.now _)
theorem xor_flip (a : Nat) (v : Int) (ha : a < 2 ^ 24) (h0 : 0 ≤ v) (h1 : v < 24) : Go.bits .xor .i64 (a : Int) (shl .i64 1 v) = ((flip a v : Nat) : Int) := by
  have hip : (2 : Nat) ^ v.toNat ≤ 2 ^ 24 := Nat.pow_le_pow_right (by decide) (by omega)
  have e := shl1 v.toNat (by omega)
  rw [← nat_of h0] at e
  have hf : flip a v < 2 ^ 25 := Nat.xor_lt_two_pow (Nat.lt_of_lt_of_le ha (by decide)) (Nat.lt_of_le_of_lt hip (by decide))
  rw [e]
  have key := bits_xor a (2 ^ v.toNat) (Nat.lt_of_lt_of_le ha (by decide)) (Nat.lt_of_le_of_lt hip (by decide))
  exact key
theorem matters_loop {vs rs : List Int} (h : VT vs rs) {v : Int} (h0 : 0 ≤ v) (h1 : v < 24) : ∀ (d r : Nat), r + d = 2 ^ vs.length → Ev (fun k => ancepsref38_Matters.l0 k v r vs rs) ((List.range' r d).any fun r => hs vs rs (asg vs r) != hs vs rs (flip (asg vs r) v))
  | 0, r, hd => by
    have hs1 := shl1 vs.length (by have := h.len; omega)
    refine Ev.step (f := fun _ => some false) (fun k => by rw [ancepsref38_Matters.l0, hs1, if_neg (by omega)]) ?_
    exact Ev.now _
  | d + 1, r, hd => by
    have hl := h.len
    have hs1 := shl1 vs.length (by omega)
    have hp := pow10 hl
    have hw : wrap64 ((r : Int) + 1) = ((r + 1 : Nat) : Int) := by rw [w64_in _ (by omega)]; omega
    have ih := matters_loop h h0 h1 d (r + 1) (by omega)
    rw [List.range'_succ, List.any_cons]
    refine Ev.step (fun k => by rw [ancepsref38_Matters.l0, hs1, if_pos (by omega), hw]) (Ev.bind (rasg_ev h.vars (by omega) r) (Ev.bind (holds_ev h _) (ev_pos h0 ?_)))
    rw [xor_flip _ v (asg_lt h.vars r) h0 h1]
    refine Ev.bind (holds_ev h _) ?_
    by_cases e : (hs vs rs (asg vs r) != hs vs rs (flip (asg vs r) v)) = true
    · rw [e, Bool.true_or]; exact ev_pos rfl (Ev.now _)
    · rw [Bool.not_eq_true] at e
      rw [e, Bool.false_or]; exact ev_neg (by simp) ih
theorem matters_ev {vs rs : List Int} (h : VT vs rs) {v : Int} (h0 : 0 ≤ v) (h1 : v < 24) : Ev (fun k => ancepsref38_Matters.f k vs rs v) (mat vs rs v) := by
  have := matters_loop h h0 h1 (2 ^ vs.length) 0 (by omega)
  rw [← List.range_eq_range'] at this
  exact this
theorem rvital_loop {vs rs : List Int} (h : VT vs rs) : ∀ (d i : Nat) (acc : List Int), i + d = vs.length → acc.length ≤ i → (∀ w, w ∈ acc → 0 ≤ w ∧ w < 24) →
    Ev (fun k => ancepsref38_Vital.l0 k acc i vs rs) (acc ++ (vs.drop i).filter (mat vs rs), prj vs rs (acc ++ (vs.drop i).filter (mat vs rs)), 0)
  | 0, i, acc, hd, ha, hp => by
    have hl := h.len
    have hr := h.rows_len
    rw [List.drop_eq_nil_of_le (by omega), List.filter_nil, List.append_nil]
    refine Ev.step (fun k => by rw [ancepsref38_Vital.l0, if_neg (by omega)]) (Ev.bind (proj_ev h.vars (by omega) (fun r hr2 => (h.row_of hr2).1) (by omega) hp (by omega)) ?_)
    exact Ev.now _
  | d + 1, i, acc, hd, ha, hp => by
    have hl := h.len
    have hi : i < vs.length := by omega
    have hw := wrap_succ i vs.length hi (by omega)
    have hv := h.vars' _ (rd_mem vs i hi)
    rw [rd_at vs i hi, List.filter_cons]
    refine Ev.step (fun k => by rw [ancepsref38_Vital.l0, if_pos (by omega), if_pos (by omega), hw]) (Ev.bind (matters_ev h hv.1 hv.2) ?_)
    by_cases e : mat vs rs (rd vs i) = true
    · have ih := rvital_loop h d (i + 1) (acc ++ [rd vs i]) (by omega) (by simp; omega) (fun w hw2 => by
        rcases List.mem_append.1 hw2 with h2 | h2
        · exact hp w h2
        · rw [List.mem_singleton.1 h2]; exact hv)
      rw [List.append_assoc, List.singleton_append] at ih
      rw [if_pos e]
      exact ev_pos e (ev_pos (by omega) ih)
    · have ih := rvital_loop h d (i + 1) acc (by omega) (by omega) hp
      rw [if_neg e]
      exact ev_neg e ih
def vits (vs rs : List Int) : List Int × List Int × Int := if valid vs rs = 0 then ((vit vs rs).1, (vit vs rs).2, 0) else ([], [], valid vs rs)
theorem rvital_ev (vs rs : List Int) (hl : (vs.length : Int) ≤ 9223372036854775807) (hr : (rs.length : Int) ≤ 9223372036854775807) : Ev (fun k => ancepsref38_Vital.f k vs rs) (vits vs rs) := by
  refine Ev.bind (rvalid_ev vs rs hl hr) (ev_ite (fun h => ?_) (fun _ => Ev.now _))
  have hv := (valid_VT vs rs).1 h
  have := rvital_loop hv vs.length 0 [] (by omega) (by simp) (fun w hw => by simp at hw)
  rw [List.drop_zero, List.nil_append] at this
  exact this
theorem prj_len (vs rs us : List Int) : (prj vs rs us).length ≤ 2 ^ us.length := flt_len _ _ _
theorem vits_small (vs rs : List Int) : (vits vs rs).1.length ≤ 1024 ∧ (vits vs rs).2.1.length ≤ 1024 := by
  unfold vits
  by_cases h : valid vs rs = 0
  · have hv := ((valid_VT vs rs).1 h).len
    have hf := List.length_filter_le (mat vs rs) vs
    have hp := prj_len vs rs (vs.filter (mat vs rs))
    have := pow10 (Nat.le_trans hf hv)
    rw [if_pos h]
    exact ⟨Nat.le_trans hf (by omega), Nat.le_trans hp this⟩
  · rw [if_neg h]; simp
end Go.Proofs.Ythcfmdkhkikbcaa.Pure
