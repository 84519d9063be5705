/- The plain law behind H: about the printed functions alone, no memory and no Go in it. -/
import Derived.Test.YtbagnalcabdlhaaPureW
import Derived.Test.YtbagnalcabdlhaaS9
import Derived.Test.YtbagnalcabdlhaaS12
namespace Go.Proofs.Ytbagnalcabdlhaa.Pure
open Go.RowKit Go.Proofs.YtbagnalcabdlhaaW.PrintWords Go.Proofs.Ytbagnalcabdlhaa.S
set_option linter.unusedVariables false
set_option linter.unusedSimpArgs false
/-! ### Contains -/
theorem index_loop (l : List Int) (hl : (l.length : Int) ≤ 9223372036854775807) (x : Int) : ∀ (d i : Nat), i + d = l.length → ∃ q : Int, Ev (fun k => slices_Index_int_int.l0 k l x l.length i) q ∧ decide (q ≥ 0) = decide (x ∈ l.drop i)
  | 0, i, h => by
    rw [List.drop_eq_nil_of_le (by omega)]
    exact ⟨-1, Ev.step (f := fun _ => some (-1)) (fun k => by rw [slices_Index_int_int.l0, if_neg (by omega)]) (Ev.now _), by simp⟩
  | d + 1, i, h => by
    have hi : i < l.length := by omega
    have hw := wrap_succ i l.length hi hl
    obtain ⟨q, hq, hq2⟩ := index_loop l hl x d (i + 1) (by omega)
    rw [rd_at l i hi]
    by_cases e : x = rd l i
    · exact ⟨i, Ev.step (f := fun _ => some (i : Int)) (fun k => by rw [slices_Index_int_int.l0, if_pos (by omega), if_pos (by omega), if_pos (by omega), if_pos e]) (Ev.now _), decide_eq_decide.2 ⟨fun _ => by rw [e]; exact List.mem_cons_self, fun _ => by omega⟩⟩
    · refine ⟨q, Ev.step (fun k => by rw [slices_Index_int_int.l0, if_pos (by omega), if_pos (by omega), if_pos (by omega), if_neg e, hw]) hq, ?_⟩
      rw [hq2, decide_eq_decide, List.mem_cons]
      exact ⟨.inr, fun h => by rcases h with h | h; exact absurd h e; exact h⟩
theorem contains_ev (l : List Int) (hl : (l.length : Int) ≤ 9223372036854775807) (x : Int) : Ev (fun k => slices_Contains_int_int.f k l x) (decide (x ∈ l)) := by
  obtain ⟨q, hq, hq2⟩ := index_loop l hl x l.length 0 (by omega)
  rw [List.drop_zero] at hq2
  rw [← hq2]
  exact Ev.bind hq (Ev.now _)
/-! ### Holds -/
theorem bits_andNot (a b : Nat) (ha : a < 2 ^ 62) (hb : b < 2 ^ 62) : Go.bits .andNot .i64 (a : Int) (b : Int) = ((a &&& (a ^^^ b) : Nat) : Int) := by
  have h62 : (2 : Nat) ^ 62 = 4611686018427387904 := by decide
  have h64 : (2 : Nat) ^ IntKind.i64.bits = 18446744073709551616 := by decide
  have hx : a &&& (a ^^^ b) ≤ a := Nat.and_le_left
  have ha' : a % 2 ^ IntKind.i64.bits = a := Nat.mod_eq_of_lt (by omega)
  have hb' : b % 2 ^ IntKind.i64.bits = b := Nat.mod_eq_of_lt (by omega)
  have e : ∀ x y : BitVec IntKind.i64.bits, x &&& ~~~y = x &&& (x ^^^ y) := by
    intro x y
    ext i hi
    simp only [BitVec.getElem_and, BitVec.getElem_not, BitVec.getElem_xor]
    cases x[i] <;> cases y[i] <;> rfl
  simp only [Go.bits, BitVec.ofInt_natCast, e, BitVec.toNat_and, BitVec.toNat_xor, BitVec.toNat_ofNat, ha', hb']
  rw [IntKind.wrap_i64]
  omega
def mask : List Int → Nat → Nat
  | [], m => m
  | v :: vs, m => mask vs (m ||| 2 ^ v.toNat)
theorem mask_bit : ∀ (vs : List Int) (m j : Nat), (mask vs m).testBit j = (m.testBit j || vs.any fun v => v.toNat == j)
  | [], m, j => by simp [mask]
  | v :: vs, m, j => by
    rw [mask, mask_bit vs, Nat.testBit_or, Nat.testBit_two_pow, List.any_cons, Bool.or_assoc]
    congr 1
theorem mask_lt : ∀ (vs : List Int) (m : Nat), (∀ v, v ∈ vs → 0 ≤ v ∧ v < 24) → m < 2 ^ 24 → mask vs m < 2 ^ 24
  | [], m, _, h => h
  | v :: vs, m, hv, h => mask_lt vs _ (fun x hx => hv x (List.mem_cons_of_mem _ hx)) (Nat.or_lt_two_pow h (Nat.pow_lt_pow_right (by decide) (by have := hv v List.mem_cons_self; omega)))
theorem asgrow_bit {hi : Int} {vs : List Int} (h : Chn hi none vs) (a j : Nat) : (asg vs (row vs a)).testBit j = (a.testBit j && (mask vs 0).testBit j) := by
  rw [mask_bit, Nat.zero_testBit, Bool.false_or, Bool.eq_iff_iff, asg_bit h, Bool.and_eq_true, List.any_eq_true]
  constructor
  · rintro ⟨m, v, hv, rfl, hb⟩
    obtain ⟨u, hu, hb⟩ := (row_bit vs a m).1 hb
    rw [hv] at hu
    injection hu with hu
    exact ⟨by rw [hu]; exact hb, v, List.mem_of_getElem? hv, by simp⟩
  · rintro ⟨hb, v, hv, e⟩
    obtain ⟨i, hi2⟩ := List.getElem?_of_mem hv
    have e2 : v.toNat = j := by simpa using e
    exact ⟨i, v, hi2, e2.symm, (row_bit vs a i).2 ⟨v, hi2, by rw [e2]; exact hb⟩⟩
theorem asgrow_iff {hi : Int} {vs : List Int} (h : Chn hi none vs) (a : Nat) : asg vs (row vs a) = a ↔ a &&& (a ^^^ mask vs 0) = 0 := by
  constructor
  · intro e
    apply Nat.eq_of_testBit_eq
    intro j
    have := asgrow_bit h a j
    rw [e] at this
    rw [Nat.testBit_and, Nat.testBit_xor, Nat.zero_testBit]
    revert this
    cases a.testBit j <;> cases (mask vs 0).testBit j <;> simp
  · intro e
    apply Nat.eq_of_testBit_eq
    intro j
    rw [asgrow_bit h]
    have := congrArg (fun z => z.testBit j) e
    simp only [Nat.testBit_and, Nat.testBit_xor, Nat.zero_testBit] at this
    revert this
    cases a.testBit j <;> cases (mask vs 0).testBit j <;> simp
theorem hmask_loop (l : List S61) (vs : List Int) (hv : ∀ v, v ∈ vs → 0 ≤ v ∧ v < 24) (hl : vs.length ≤ 24) (a : Int) (r : Bool) : ∀ (d i m : Nat), i + d = vs.length → m < 2 ^ 24 →
    Ev (fun k => if (Go.bits .andNot .i64 a ((mask (vs.drop i) m : Nat) : Int)) = 0 then ((api_Table_solve_Holds_1.f k l a).bind fun t => (some (!t))) else (some false)) r → Ev (fun k => solve_Holds.l0 k l (m : Int) vs vs.length i a) r
  | 0, i, m, h, hm, H => by
    rw [List.drop_eq_nil_of_le (by omega)] at H
    exact Ev.step (fun k => by rw [solve_Holds.l0, if_neg (by omega)]; rfl) H
  | d + 1, i, m, h, hm, H => by
    have hi : i < vs.length := by omega
    have hw := wrap_succ i vs.length hi (by omega)
    have h1 := hv _ (rd_mem vs i hi)
    rw [rd_at vs i hi, mask] at H
    have ih := hmask_loop l vs hv hl a r d (i + 1) _ (by omega) (Nat.or_lt_two_pow hm (Nat.pow_lt_pow_right (by decide) (by omega))) H
    refine Ev.step (fun k => ?_) ih
    rw [solve_Holds.l0, if_pos (by omega), if_pos (by omega), if_pos (by omega), if_pos (by omega), hw]
    have e := shl1 (rd vs i).toNat (by omega)
    rw [← nat_of h1.1] at e
    have hp : 2 ^ (rd vs i).toNat < 2 ^ 24 := Nat.pow_lt_pow_right (by decide) (by omega)
    have hw2 : ∀ z : Int, 0 ≤ z → z < 2 ^ 62 → IntKind.i64.wrap z = z := fun z h0 h1 => by
      rw [IntKind.wrap_i64]
      have : (2 : Int) ^ 62 = 4611686018427387904 := by decide
      omega
    have h62 : (2 : Nat) ^ 24 ≤ 2 ^ 62 := by decide
    rw [e, (bits_nat .i64 62 (by decide) hw2 m _ (by omega) (by omega)).2]
theorem shold_loop {l : List S61} (h : VS l) (a : Nat) (ha : a < 2 ^ 24) : ∀ (d i : Nat), i + d = l.length → ∃ q : Int, Ev (fun k => api_Table_solve_Holds_1_v2.l0 k l l.length i (a : Int)) q ∧ decide (q ≥ 0) = (l.drop i).any fun t => !hs t.f0 t.f1 a
  | 0, i, hd => by
    rw [List.drop_eq_nil_of_le (by omega)]
    exact ⟨-1, Ev.step (f := fun _ => some (-1)) (fun k => by rw [api_Table_solve_Holds_1_v2.l0, if_neg (by omega)]) (Ev.now _), rfl⟩
  | d + 1, i, hd => by
    have hi : i < l.length := by omega
    have hl := h.len
    have hw := wrap_succ i l.length hi (by omega)
    have hm := h.tab _ (rdT_mem l i hi)
    have hr := hm.rows_len
    obtain ⟨q, hq, hq2⟩ := shold_loop h a ha d (i + 1) (by omega)
    have h1 : Ev (fun k => solve_Holds_1_v1.f k (rd_T61 l i).f0 (rd_T61 l i).f1 (a : Int)) (!hs (rd_T61 l i).f0 (rd_T61 l i).f1 a) :=
      Ev.bind (srow_ev _ _ hm.vars' (by have := hm.len; omega) a (Nat.lt_of_lt_of_le ha (by decide))) (Ev.bind (contains_ev _ (by omega) _) (Ev.now _))
    rw [rdT_at l i hi, List.any_cons]
    by_cases e : (!hs (rd_T61 l i).f0 (rd_T61 l i).f1 a) = true
    · rw [e] at h1 ⊢
      exact ⟨i, Ev.step (fun k => by rw [api_Table_solve_Holds_1_v2.l0, if_pos (by omega), if_pos (by omega), if_pos (by omega)]) (Ev.bind h1 (ev_pos rfl (Ev.now _))), by rw [Bool.true_or]; exact decide_eq_true (by omega)⟩
    · rw [Bool.not_eq_true] at e
      rw [e] at h1 ⊢
      exact ⟨q, Ev.step (fun k => by rw [api_Table_solve_Holds_1_v2.l0, if_pos (by omega), if_pos (by omega), if_pos (by omega), hw]) (Ev.bind h1 (ev_neg Bool.false_ne_true hq)), by rw [Bool.false_or]; exact hq2⟩
theorem rhold_loop {l : List S61} (h : VS l) (a : Nat) : ∀ (d i : Nat), i + d = l.length → Ev (fun k => ancepsref40_Holds.l0 k l (a : Int) i) ((l.drop i).all fun t => hs t.f0 t.f1 a)
  | 0, i, hd => by
    rw [List.drop_eq_nil_of_le (by omega)]
    exact Ev.step (f := fun _ => some true) (fun k => by rw [ancepsref40_Holds.l0, if_neg (by omega)]) (Ev.now _)
  | d + 1, i, hd => by
    have hi : i < l.length := by omega
    have hl := h.len
    have hw := wrap_succ i l.length hi (by omega)
    have hm := h.tab _ (rdT_mem l i hi)
    have ih := rhold_loop h a d (i + 1) (by omega)
    rw [rdT_at l i hi, List.all_cons]
    refine Ev.step (fun k => by rw [ancepsref40_Holds.l0, if_pos (by omega), if_pos (by omega), hw]) (Ev.bind (holds_ev hm a) ?_)
    cases hs (rd_T61 l i).f0 (rd_T61 l i).f1 a
    · exact ev_neg Bool.false_ne_true (Ev.now _)
    · exact ev_pos rfl (by simpa using ih)
/-- What Holds says. -/
def hsS (l : List S61) (a : Nat) : Bool := decide (asg (occ l) (row (occ l) a) = a) && l.all fun t => hs t.f0 t.f1 a
def hld (l : List S61) (a : Int) : Bool := if sysv l = 0 then if a < 0 then false else if a ≥ 16777216 then false else hsS l a.toNat else false
theorem VS.occ' {l : List S61} (h : VS l) : ∀ v, v ∈ Pure.occ l → 0 ≤ v ∧ v < 24 := fun v hv => by have := h.occ.1.mem v hv; omega
theorem VS.occ_len {l : List S61} (h : VS l) : (Pure.occ l).length ≤ 24 := by have := h.occ.1.len (by decide); omega
theorem dhold_ev (l : List S61) (hs' : Sm l) (hl : l.length ≤ 1000) (a : Int) : Ev (fun k => solve_Holds.f k l a) (hld l a) := by
  have hno : Ev (fun k => solve_Holds.j0 k l true a) false := Ev.step (f := fun _ => some false) (fun k => by rw [solve_Holds.j0, if_pos rfl]) (Ev.now _)
  refine Ev.bind (svalid_ev l hs' hl) (ev_ite (fun h => ev_ite (fun _ => hno) (fun h0 => ?_)) (fun _ => hno))
  have hv := (sysv_VS l).1 h
  by_cases h1 : a ≥ 16777216
  · rw [if_pos h1]; simp only [decide_eq_true h1]; exact hno
  · rw [if_neg h1]; simp only [decide_eq_false h1]
    refine Ev.step (fun k => by rw [solve_Holds.j0, if_neg (by simp)]) (Ev.bind (occ_ev l hs' hl) ?_)
    have h24 : (2 : Nat) ^ 24 = 16777216 := by decide
    have ha : a.toNat < 2 ^ 24 := by omega
    refine hmask_loop l (occ l) hv.occ' hv.occ_len a _ (occ l).length 0 0 (by omega) (by decide) ?_
    rw [List.drop_zero]
    have hm := mask_lt (occ l) 0 hv.occ' (by decide)
    have e : Go.bits .andNot .i64 a ((mask (occ l) 0 : Nat) : Int) = ((a.toNat &&& (a.toNat ^^^ mask (occ l) 0) : Nat) : Int) := by
      have := bits_andNot a.toNat (mask (occ l) 0) (Nat.lt_of_lt_of_le ha (by decide)) (Nat.lt_of_lt_of_le hm (by decide))
      rw [← nat_of (by omega)] at this
      exact this
    have iff := asgrow_iff hv.occ.1 a.toNat
    unfold hsS
    by_cases c : asg (occ l) (row (occ l) a.toNat) = a.toNat
    · have c2 := iff.1 c
      rw [decide_eq_true c, Bool.true_and]
      refine ev_pos (by rw [e, c2]; rfl) ?_
      obtain ⟨q, hq, hq2⟩ := shold_loop hv a.toNat ha l.length 0 (by omega)
      rw [← nat_of (by omega), List.drop_zero] at *
      refine Ev.bind (show Ev (fun k => api_Table_solve_Holds_1.f k l a) (decide (q ≥ 0)) from Ev.bind hq (Ev.now _)) ?_
      rw [hq2]
      refine ev_eq (Ev.now _) ?_
      rw [List.any_eq_not_all_not, Bool.not_not]
      (try simp only [Bool.not_not])
    · rw [decide_eq_false c, Bool.false_and]
      refine ev_neg (fun h2 => c (iff.2 ?_)) (Ev.now _)
      rw [e] at h2
      exact_mod_cast h2
theorem rhold_ev (l : List S61) (hs' : Sm l) (hl : l.length ≤ 1000) (a : Int) : Ev (fun k => ancepsref40_Holds.f k l a) (hld l a) := by
  have hno : Ev (fun k => ancepsref40_Holds.j0 k l a true) false := Ev.step (f := fun _ => some false) (fun k => by rw [ancepsref40_Holds.j0, if_pos rfl]) (Ev.now _)
  refine Ev.bind (rsvalid_ev l hs' hl) (ev_ite (fun h => ev_ite (fun _ => hno) (fun h0 => ?_)) (fun _ => hno))
  have hv := (sysv_VS l).1 h
  by_cases h1 : a ≥ 16777216
  · rw [if_pos h1]; simp only [decide_eq_true h1]; exact hno
  · rw [if_neg h1]; simp only [decide_eq_false h1]
    refine Ev.step (fun k => by rw [ancepsref40_Holds.j0, if_neg (by simp)]) (Ev.bind (rvars_ev hv hs') ?_)
    have hr := rrow_ev (occ l) hv.occ' hv.occ_len a.toNat
    rw [← nat_of (by omega)] at hr
    refine Ev.bind hr (Ev.bind (rasg_ev hv.occ.1 hv.occ_len _) ?_)
    unfold hsS
    by_cases c : asg (occ l) (row (occ l) a.toNat) = a.toNat
    · rw [decide_eq_true c, Bool.true_and]
      refine ev_pos (by rw [c]; omega) ?_
      have := rhold_loop hv a.toNat l.length 0 (by omega)
      rw [← nat_of (by omega), List.drop_zero] at this
      exact this
    · rw [decide_eq_false c, Bool.false_and]
      exact ev_neg (by omega) (Ev.now _)
theorem solveHolds_ev (l : List S61) (a : Int) : Ev (fun k => ancepslaw40_SolveHolds.f k l a) true := by
  unfold ancepslaw40_SolveHolds.f
  refine Ev.bind awake_ev (ev_pos rfl ?_)
  have hno : Ev (fun k => ancepslaw40_SolveHolds.j0 k l a true) true := Ev.step (fun k => by rw [ancepslaw40_SolveHolds.j0, if_pos rfl]) awake_bind
  obtain ⟨b, hb, hq⟩ := sfew_ev l
  refine Ev.bind hb ?_
  cases b
  · exact hno
  · obtain ⟨h1, h2⟩ := hq rfl
    refine Ev.step (fun k => by rw [ancepslaw40_SolveHolds.j0, if_neg (by simp)]) (Ev.bind (dhold_ev l h1 (by omega) a) (Ev.bind (rhold_ev l h1 (by omega) a) ?_))
    exact ev_eq (Ev.now _) (by simp)
end Go.Proofs.Ytbagnalcabdlhaa.Pure
