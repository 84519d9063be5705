/- The plain law behind S: about the printed functions alone, no memory and no Go in it. -/
import Derived.Test.YtbagnalcabdlhaaPureH
namespace Go.Proofs.Ytbagnalcabdlhaa.Pure
open Go.RowKit Go.Proofs.YtbagnalcabdlhaaW.PrintWords Go.Proofs.Ytbagnalcabdlhaa.S
set_option linter.unusedVariables false
set_option linter.unusedSimpArgs false
/-! ### The search -/
/-- No row of a table agrees with choices. -/
def fl (t : S61) (C V : Nat) : Bool := !(t.f1.any fun r => r.toNat &&& row t.f0 C == row t.f0 V)
theorem w62 : ∀ z : Int, 0 ≤ z → z < 2 ^ 62 → IntKind.i64.wrap z = z := fun z h0 h1 => by
  rw [IntKind.wrap_i64]
  have : (2 : Int) ^ 62 = 4611686018427387904 := by decide
  omega
theorem ifun_loop (rs : List Int) (hl : (rs.length : Int) ≤ 9223372036854775807) (hr : ∀ r, r ∈ rs → 0 ≤ r ∧ r.toNat < 2 ^ 62) (m w : Nat) (hm : m < 2 ^ 62) : ∀ (d i : Nat), i + d = rs.length →
    ∃ q : Int, Ev (fun k => slices_IndexFunc_int_int_solve_choices_fails_1.l0 k rs rs.length i (m : Int) (w : Int)) q ∧ decide (q ≥ 0) = (rs.drop i).any fun r => r.toNat &&& m == w
  | 0, i, h => by
    rw [List.drop_eq_nil_of_le (by omega)]
    exact ⟨-1, Ev.step (f := fun _ => some (-1)) (fun k => by rw [slices_IndexFunc_int_int_solve_choices_fails_1.l0, if_neg (by omega)]) (Ev.now _), rfl⟩
  | d + 1, i, h => by
    have hi : i < rs.length := by omega
    have hw := wrap_succ i rs.length hi hl
    obtain ⟨q, hq, hq2⟩ := ifun_loop rs hl hr m w hm d (i + 1) (by omega)
    have h1 := hr _ (rd_mem rs i hi)
    have hb := (bits_nat .i64 62 (by decide) w62 (rd rs i).toNat m h1.2 hm).1
    rw [← nat_of h1.1] at hb
    have hf : solve_choices_fails_1_v1.f (rd rs i) (m : Int) (w : Int) = some ((rd rs i).toNat &&& m == w) := by
      unfold solve_choices_fails_1_v1.f
      rw [hb]
      congr 1
      rw [Bool.eq_iff_iff, beq_iff_eq, beq_iff_eq]
      omega
    rw [rd_at rs i hi, List.any_cons]
    by_cases e : ((rd rs i).toNat &&& m == w) = true
    · rw [e] at hf ⊢
      exact ⟨i, Ev.step (fun k => by rw [slices_IndexFunc_int_int_solve_choices_fails_1.l0, if_pos (by omega), if_pos (by omega), if_pos (by omega), hf]; rfl) (Ev.now (i : Int)), by rw [Bool.true_or]; exact decide_eq_true (by omega)⟩
    · rw [Bool.not_eq_true] at e
      rw [e] at hf ⊢
      exact ⟨q, Ev.step (fun k => by rw [slices_IndexFunc_int_int_solve_choices_fails_1.l0, if_pos (by omega), if_pos (by omega), if_pos (by omega), hf, hw]; rfl) hq, by rw [Bool.false_or]; exact hq2⟩
theorem p62 {a n : Nat} (h : a < 2 ^ n) (hn : n ≤ 62) : a < 2 ^ 62 := Nat.lt_of_lt_of_le h (Nat.pow_le_pow_right (by decide) hn)
theorem fails_ev {t : S61} (h : VT t.f0 t.f1) (C V : Nat) (hC : C < 2 ^ 24) (hV : V < 2 ^ 24) : Ev (fun k => solve_choices_fails.f k (C : Int) (V : Int) t.f0 t.f1) (fl t C V) := by
  have hl := h.len
  have hr := h.rows_len
  refine Ev.bind (srow_ev _ _ h.vars' (by omega) C (p62 hC (by decide) |> fun _ => Nat.lt_of_lt_of_le hC (by decide))) (Ev.bind (srow_ev _ _ h.vars' (by omega) V (Nat.lt_of_lt_of_le hV (by decide))) ?_)
  obtain ⟨q, hq, hq2⟩ := ifun_loop t.f1 (by omega) (fun r hr => ⟨(h.row_of hr).1, p62 (h.row_of hr).2.1 (by omega)⟩) (row t.f0 C) (row t.f0 V) (p62 (row_lt _ _) (by omega)) t.f1.length 0 (by omega)
  rw [List.drop_zero] at hq2
  refine Ev.bind (show Ev (fun k => slices_ContainsFunc_int_int_solve_choices_fails_1.f k t.f1 ((row t.f0 C : Nat) : Int) ((row t.f0 V : Nat) : Int)) (decide (q ≥ 0)) from Ev.bind hq (Ev.now _)) ?_
  rw [hq2]
  exact Ev.now _
/-- The first table that fails, or -1. -/
def ffl (C V : Nat) : List S61 → Nat → Int
  | [], _ => -1
  | t :: ts, i => if fl t C V = true then (i : Int) else ffl C V ts (i + 1)
theorem ffl_neg (C V : Nat) : ∀ (l : List S61) (i : Nat), 0 ≤ ffl C V l i ↔ (l.any fun t => fl t C V) = true
  | [], i => by simp [ffl]
  | t :: ts, i => by
    have ih := ffl_neg C V ts (i + 1)
    rw [ffl, List.any_cons]
    by_cases h : fl t C V = true
    · rw [if_pos h, h]; simp
    · rw [if_neg h, ih]; rw [Bool.not_eq_true] at h; rw [h, Bool.false_or]
theorem failing_loop {l : List S61} (h : VS l) (C V : Nat) (hC : C < 2 ^ 24) (hV : V < 2 ^ 24) : ∀ (d i : Nat), i + d = l.length → Ev (fun k => api_Table_solve_choices_fails.l0 k l l.length i (C : Int) (V : Int)) (ffl C V (l.drop i) i)
  | 0, i, hd => by
    rw [List.drop_eq_nil_of_le (by omega)]
    exact Ev.step (f := fun _ => some (-1)) (fun k => by rw [api_Table_solve_choices_fails.l0, if_neg (by omega)]) (Ev.now _)
  | d + 1, i, hd => by
    have hi : i < l.length := by omega
    have hl := h.len
    have hw := wrap_succ i l.length hi (by omega)
    have ih := failing_loop h C V hC hV d (i + 1) (by omega)
    rw [rdT_at l i hi, ffl]
    refine Ev.step (fun k => by rw [api_Table_solve_choices_fails.l0, if_pos (by omega), if_pos (by omega), if_pos (by omega), hw]) (Ev.bind (fails_ev (h.tab _ (rdT_mem l i hi)) C V hC hV) ?_)
    exact ev_ite (fun _ => Ev.now _) (fun _ => ih)
theorem failing_ev {l : List S61} (h : VS l) (C V : Nat) (hC : C < 2 ^ 24) (hV : V < 2 ^ 24) : Ev (fun k => solve_choices_failing.f k (C : Int) (V : Int) l) (ffl C V l 0) := by
  have := failing_loop h C V hC hV l.length 0 (by omega)
  rw [List.drop_zero] at this
  exact Ev.bind this (Ev.now _)
/-- Choices with a further one. -/
def wC (C : Nat) (v : Int) : Nat := C ||| 2 ^ v.toNat
def wV (V : Nat) (v : Int) (b : Bool) : Nat := (V &&& (V ^^^ 2 ^ v.toNat)) ||| b.toNat * 2 ^ v.toNat
theorem wC_lt {C : Nat} {v : Int} (h : C < 2 ^ 24) (h0 : 0 ≤ v) (h1 : v < 24) : wC C v < 2 ^ 24 := Nat.or_lt_two_pow h (Nat.pow_lt_pow_right (by decide) (by omega))
theorem wV_lt {V : Nat} {v : Int} (b : Bool) (h : V < 2 ^ 24) (h0 : 0 ≤ v) (h1 : v < 24) : wV V v b < 2 ^ 24 := by
  have hp : 2 ^ v.toNat < 2 ^ 24 := Nat.pow_lt_pow_right (by decide) (by omega)
  refine Nat.or_lt_two_pow (Nat.lt_of_le_of_lt Nat.and_le_left h) ?_
  cases b
  · simp
  · simpa using hp
theorem wC_bit (C : Nat) (v : Int) (j : Nat) : (wC C v).testBit j = (C.testBit j || v.toNat == j) := by
  unfold wC
  rw [Nat.testBit_or, Nat.testBit_two_pow]
  congr 1
theorem wV_bit (V : Nat) (v : Int) (b : Bool) (j : Nat) : (wV V v b).testBit j = ((V.testBit j && !(v.toNat == j)) || (b && v.toNat == j)) := by
  unfold wV
  rw [Nat.testBit_or, Nat.testBit_and, Nat.testBit_xor, Nat.testBit_two_pow]
  have h1 : (b.toNat * 2 ^ v.toNat).testBit j = (b && v.toNat == j) := by
    cases b
    · simp
    · simp only [Bool.toNat_true, Nat.one_mul, Nat.testBit_two_pow, Bool.true_and]
      rfl
  rw [h1]
  congr 1
  have e : decide (v.toNat = j) = (v.toNat == j) := rfl
  rw [e]
  cases V.testBit j <;> cases (v.toNat == j) <;> rfl
theorem with_eq {C V : Nat} {v : Int} (b : Bool) (hC : C < 2 ^ 24) (hV : V < 2 ^ 24) (h0 : 0 ≤ v) (h1 : v < 24) : solve_choices_with.f (C : Int) (V : Int) v ((b.toNat : Nat) : Int) = some (((wC C v : Nat) : Int), ((wV V v b : Nat) : Int)) := by
  unfold solve_choices_with.f
  rw [if_pos h0]
  have hp : 2 ^ v.toNat < 2 ^ 24 := Nat.pow_lt_pow_right (by decide) (by omega)
  have e1 := shl1 v.toNat (by omega)
  rw [← nat_of h0] at e1
  have e2 : shl .i64 ((b.toNat : Nat) : Int) v = ((b.toNat * 2 ^ v.toNat : Nat) : Int) := by
    cases b
    · simp only [Bool.toNat_false, Nat.zero_mul]
      unfold shl
      rw [show ((0 : Nat) : Int) = 0 from rfl, Int.zero_mul]
      rfl
    · simp only [Bool.toNat_true, Nat.one_mul]
      exact e1
  have hbp : b.toNat * 2 ^ v.toNat < 2 ^ 24 := by
    cases b
    · simp
    · simpa using hp
  have k1 := (bits_nat .i64 62 (by decide) w62 C (2 ^ v.toNat) (p62 hC (by decide)) (p62 hp (by decide))).2
  have k2 := bits_andNot V (2 ^ v.toNat) (p62 hV (by decide)) (p62 hp (by decide))
  have k3 := (bits_nat .i64 62 (by decide) w62 (V &&& (V ^^^ 2 ^ v.toNat)) (b.toNat * 2 ^ v.toNat) (p62 (Nat.lt_of_le_of_lt Nat.and_le_left hV) (by decide)) (p62 hbp (by decide))).2
  rw [e1, e2, k1, k2, k3]
  rfl
/-- All solutions below choices; the variables from the last one on. -/
def sols (l : List S61) : List Int → Nat → Nat → List Int
  | [], C, V => if (l.any fun t => fl t C V) = true then [] else [(V : Int)]
  | v :: us, C, V => if (l.any fun t => fl t C V) = true then [] else sols l us (wC C v) (wV V v false) ++ sols l us (wC C v) (wV V v true)
theorem search_ev {l : List S61} (h : VS l) : ∀ (us : List Int) (C V : Nat), C < 2 ^ 24 → V < 2 ^ 24 → us.length ≤ 24 → (∀ v, v ∈ us → 0 ≤ v ∧ v < 24) → Ev (fun k => solve_search.f k l us.reverse (C : Int) (V : Int)) (sols l us C V)
  | [], C, V, hC, hV, hl, hv => by
    refine Ev.step (fun k => by rw [solve_search.f]) (Ev.bind (failing_ev h C V hC hV) ?_)
    have hn := ffl_neg C V l 0
    rw [sols]
    by_cases e : (l.any fun t => fl t C V) = true
    · rw [if_pos e]; exact ev_pos (hn.2 e) (Ev.now _)
    · rw [if_neg e]; exact ev_neg (fun h2 => e (hn.1 h2)) (ev_pos rfl (Ev.now _))
  | v :: us, C, V, hC, hV, hl, hv => by
    refine Ev.step (fun k => by rw [solve_search.f]) (Ev.bind (failing_ev h C V hC hV) ?_)
    have hn := ffl_neg C V l 0
    have h1 := hv v List.mem_cons_self
    rw [List.length_cons] at hl
    rw [sols]
    by_cases e : (l.any fun t => fl t C V) = true
    · rw [if_pos e]; exact ev_pos (hn.2 e) (Ev.now _)
    · rw [if_neg e]
      have hlen : ((v :: us).reverse.length : Int) = (us.length : Int) + 1 := by simp
      have hwr : wrap64 (((v :: us).reverse.length : Int) - 1) = (us.length : Int) := by rw [hlen, w64_in _ (by omega)]; omega
      have hrd : rd (v :: us).reverse (us.length : Int) = v := by
        unfold rd
        simp [List.getD]
      have htk : (v :: us).reverse.take ((us.length : Int)).toNat = us.reverse := by
        rw [List.reverse_cons, Int.toNat_natCast, List.take_append_of_le_length (by simp), List.take_of_length_le (by simp)]
      have ih0 := search_ev h us (wC C v) (wV V v false) (wC_lt hC h1.1 h1.2) (wV_lt false hV h1.1 h1.2) (by omega) (fun x hx => hv x (List.mem_cons_of_mem _ hx))
      have ih1 := search_ev h us (wC C v) (wV V v true) (wC_lt hC h1.1 h1.2) (wV_lt true hV h1.1 h1.2) (by omega) (fun x hx => hv x (List.mem_cons_of_mem _ hx))
      have w0 := with_eq (v := v) false hC hV h1.1 h1.2
      have w1 := with_eq (v := v) true hC hV h1.1 h1.2
      refine ev_neg (fun h2 => e (hn.1 h2)) (ev_neg (by omega) ?_)
      rw [hwr, hrd, htk]
      refine ev_pos (by omega) (ev_pos (by omega) (ev_pos (by omega) ?_))
      rw [show (0 : Int) = ((false.toNat : Nat) : Int) from rfl, w0]
      refine Ev.bind (Ev.now _) (Ev.bind ih0 ?_)
      rw [show (1 : Int) = ((true.toNat : Nat) : Int) from rfl, w1]
      exact Ev.bind (Ev.now _) (Ev.bind ih1 (Ev.now _))
/-! What the search finds. -/
theorem fl_full {t : S61} (h : VT t.f0 t.f1) {C V : Nat} (hc : ∀ w, w ∈ t.f0 → C.testBit w.toNat = true) : fl t C V = !hs t.f0 t.f1 V := by
  unfold fl hs
  congr 1
  rw [Bool.eq_iff_iff, List.any_eq_true, decide_eq_true_eq]
  have key : ∀ r : Nat, r < 2 ^ t.f0.length → r &&& row t.f0 C = r := by
    intro r hr
    apply Nat.eq_of_testBit_eq
    intro j
    rw [Nat.testBit_and]
    by_cases hj : j < t.f0.length
    · have : (row t.f0 C).testBit j = true := (row_bit _ _ _).2 ⟨_, List.getElem?_eq_getElem hj, hc _ (List.getElem_mem hj)⟩
      rw [this, Bool.and_true]
    · rw [Nat.testBit_lt_two_pow (Nat.lt_of_lt_of_le hr (Nat.pow_le_pow_right (by decide) (by omega))), Bool.false_and]
  constructor
  · rintro ⟨r, hr, e⟩
    have hro := h.row_of hr
    rw [key _ hro.2.1, beq_iff_eq] at e
    rw [← e, ← nat_of hro.1]; exact hr
  · intro hm
    exact ⟨_, hm, by rw [Int.toNat_natCast, key _ (row_lt _ _)]; simp⟩
theorem fl_sound {t : S61} {C V a : Nat} (hf : fl t C V = true) (ha : ∀ w, w ∈ t.f0 → V.testBit w.toNat = (a.testBit w.toNat && C.testBit w.toNat)) : hs t.f0 t.f1 a = false := by
  rw [Bool.eq_false_iff]
  intro hh
  unfold fl at hf
  rw [Bool.not_eq_true', List.any_eq_false] at hf
  have hm : ((row t.f0 a : Nat) : Int) ∈ t.f1 := by simpa [hs] using hh
  refine hf _ hm ?_
  rw [Int.toNat_natCast, beq_iff_eq]
  apply Nat.eq_of_testBit_eq
  intro j
  rw [Nat.testBit_and, Bool.eq_iff_iff, Bool.and_eq_true, row_bit, row_bit, row_bit]
  constructor
  · rintro ⟨⟨v, hv, h1⟩, u, hu, h2⟩
    rw [hv] at hu
    injection hu with hu
    subst hu
    exact ⟨v, hv, by rw [ha v (List.mem_of_getElem? hv), h1, h2]; rfl⟩
  · rintro ⟨v, hv, h1⟩
    rw [ha v (List.mem_of_getElem? hv), Bool.and_eq_true] at h1
    exact ⟨⟨v, hv, h1.1⟩, v, hv, h1.2⟩
def sat (l : List S61) (a : Nat) : Bool := l.all fun t => hs t.f0 t.f1 a
/-- All solutions over some variables, with values for the others. -/
def sl (l : List S61) (us : List Int) (V : Nat) : List Nat := ((List.range (2 ^ us.length)).map fun i => asg us i ||| V).filter (sat l)
theorem chn_left {hi : Int} : ∀ {us ws : List Int} {p : Option Int}, Chn hi p (us ++ ws) → Chn hi p us
  | [], _, _, _ => trivial
  | _ :: us, ws, _, ⟨h0, h1, h2, h3⟩ => ⟨h0, h1, h2, chn_left h3⟩
theorem asg_snoc {hi : Int} {us : List Int} {v : Int} (h : Chn hi none (us ++ [v])) (i : Nat) (V : Nat) :
    (i < 2 ^ us.length → asg (us ++ [v]) i ||| V = asg us i ||| V) ∧ (i < 2 ^ us.length → asg (us ++ [v]) (2 ^ us.length + i) ||| V = asg us i ||| (V ||| 2 ^ v.toNat)) := by
  have hu := chn_left h
  have gl : ∀ (m : Nat) (w : Int), (us ++ [v])[m]? = some w ↔ us[m]? = some w ∨ (m = us.length ∧ w = v) := by
    intro m w
    by_cases hm : m < us.length
    · rw [List.getElem?_append_left hm]
      exact ⟨.inl, fun hh => hh.elim id (fun ⟨e, _⟩ => by omega)⟩
    · rw [List.getElem?_append_right (by omega), List.getElem?_eq_none (by omega : us.length ≤ m)]
      by_cases e : m = us.length
      · subst e; simp [eq_comm]
      · rw [List.getElem?_eq_none (by simp; omega)]; simp [e]
  have gb : ∀ m, us[m]? ≠ none → m < us.length := fun m hm => by
    rcases Nat.lt_or_ge m us.length with h | h
    · exact h
    · exact absurd (List.getElem?_eq_none h) hm
  constructor
  · intro hi2
    apply Nat.eq_of_testBit_eq
    intro j
    rw [Nat.testBit_or, Nat.testBit_or]
    congr 1
    rw [Bool.eq_iff_iff, asg_bit h, asg_bit hu]
    constructor
    · rintro ⟨m, w, hm, rfl, hb⟩
      rcases (gl m w).1 hm with h1 | ⟨rfl, rfl⟩
      · exact ⟨m, w, h1, rfl, hb⟩
      · rw [Nat.testBit_lt_two_pow hi2] at hb; exact absurd hb (by simp)
    · rintro ⟨m, w, hm, rfl, hb⟩
      exact ⟨m, w, (gl m w).2 (.inl hm), rfl, hb⟩
  · intro hi2
    have hbit : ∀ m, (2 ^ us.length + i).testBit m = (i.testBit m || m == us.length) := by
      intro m
      have := bit_add true i us.length hi2 m
      simp only [Bool.toNat_true, Nat.one_mul, Bool.true_and] at this
      rw [Nat.add_comm]
      exact this
    apply Nat.eq_of_testBit_eq
    intro j
    rw [Nat.testBit_or, Nat.testBit_or, Nat.testBit_or, Nat.testBit_two_pow]
    have e : (asg (us ++ [v]) (2 ^ us.length + i)).testBit j = ((asg us i).testBit j || decide (v.toNat = j)) := by
      rw [Bool.eq_iff_iff, asg_bit h, Bool.or_eq_true, asg_bit hu, decide_eq_true_eq]
      constructor
      · rintro ⟨m, w, hm, rfl, hb⟩
        rcases (gl m w).1 hm with h1 | ⟨rfl, rfl⟩
        · rw [hbit] at hb
          have := gb m (by rw [h1]; simp)
          rw [show (m == us.length) = false from by simp; omega, Bool.or_false] at hb
          exact .inl ⟨m, w, h1, rfl, hb⟩
        · exact .inr rfl
      · rintro (⟨m, w, hm, rfl, hb⟩ | rfl)
        · exact ⟨m, w, (gl m w).2 (.inl hm), rfl, by rw [hbit, hb, Bool.true_or]⟩
        · exact ⟨us.length, v, (gl _ _).2 (.inr ⟨rfl, rfl⟩), rfl, by rw [hbit]; simp⟩
    rw [e]
    cases (asg us i).testBit j <;> cases V.testBit j <;> cases decide (v.toNat = j) <;> rfl
theorem sl_snoc (l : List S61) {hi : Int} {us : List Int} {v : Int} (h : Chn hi none (us ++ [v])) (V : Nat) : sl l (us ++ [v]) V = sl l us V ++ sl l us (V ||| 2 ^ v.toNat) := by
  unfold sl
  rw [List.length_append, List.length_singleton, Nat.pow_succ, Nat.mul_two, List.range_add, List.map_append, List.filter_append, List.map_map]
  congr 1
  · congr 1
    exact List.map_congr_left (fun i hi2 => (asg_snoc h i V).1 (List.mem_range.1 hi2))
  · congr 1
    exact List.map_congr_left (fun i hi2 => (asg_snoc h i V).2 (List.mem_range.1 hi2))
theorem mask_cons_bit (v : Int) (ws : List Int) (j : Nat) : (mask (v :: ws) 0).testBit j = ((mask ws 0).testBit j || v.toNat == j) := by
  rw [mask_bit, mask_bit, List.any_cons, Nat.zero_testBit, Bool.false_or, Bool.false_or, Bool.or_comm]
theorem sols_sl {l : List S61} (h : VS l) : ∀ (us ws : List Int) (V : Nat), occ l = us.reverse ++ ws → (∀ j, V.testBit j = true → (mask ws 0).testBit j = true) → sols l us (mask ws 0) V = (sl l us.reverse V).map fun a : Nat => (a : Int)
  | [], ws, V, ho, hv => by
    have hw : ws = occ l := by simpa using ho.symm
    have e : (l.any fun t => fl t (mask ws 0) V) = !sat l V := by
      unfold sat
      rw [List.not_all_eq_any_not, Bool.eq_iff_iff, List.any_eq_true, List.any_eq_true]
      have hx : ∀ t, t ∈ l → fl t (mask ws 0) V = !hs t.f0 t.f1 V := fun t ht => fl_full (h.tab t ht) (fun w hw2 => by
        rw [mask_bit, Nat.zero_testBit, Bool.false_or, List.any_eq_true]
        exact ⟨w, by rw [hw, h.occ.2]; exact List.mem_flatMap.2 ⟨t, ht, hw2⟩, by simp⟩)
      exact ⟨fun ⟨t, ht, h2⟩ => ⟨t, ht, by rw [← hx t ht]; exact h2⟩, fun ⟨t, ht, h2⟩ => ⟨t, ht, by rw [hx t ht]; exact h2⟩⟩
    rw [sols, e]
    have hz : sl l [] V = if sat l V = true then [V] else [] := by
      unfold sl
      have : asg [] 0 = 0 := rfl
      simp only [List.length_nil, Nat.pow_zero, List.range_one, List.map_cons, List.map_nil, this, Nat.zero_or, List.filter_cons, List.filter_nil]
    rw [List.reverse_nil, hz]
    cases sat l V <;> simp
  | v :: us, ws, V, ho, hv => by
    have ho2 : occ l = us.reverse ++ (v :: ws) := by rw [ho]; simp
    have hc := h.occ.1
    rw [ho] at hc
    have hch := chn_left hc
    rw [List.reverse_cons] at hch
    rw [sols]
    have hvb : V.testBit v.toNat = false := by
      rw [Bool.eq_false_iff]
      intro hb
      have hm := hv _ hb
      rw [mask_bit, Nat.zero_testBit, Bool.false_or, List.any_eq_true] at hm
      obtain ⟨w, hw, e⟩ := hm
      have hw2 : w.toNat = v.toNat := by simpa using e
      have hall := h.occ.1
      rw [ho2] at hall
      obtain ⟨m, hm⟩ := List.getElem?_of_mem hw
      have i1 : (us.reverse ++ (v :: ws))[us.reverse.length]? = some v := by rw [List.getElem?_append_right (by omega)]; simp
      have i2 : (us.reverse ++ (v :: ws))[us.reverse.length + (m + 1)]? = some w := by rw [List.getElem?_append_right (by omega)]; simpa using hm
      have := hall.inj _ _ _ _ i1 i2 hw2.symm
      omega
    have eC : wC (mask ws 0) v = mask (v :: ws) 0 := by
      apply Nat.eq_of_testBit_eq
      intro j
      rw [wC_bit, mask_cons_bit]
    have e0 : wV V v false = V := by
      apply Nat.eq_of_testBit_eq
      intro j
      rw [wV_bit, Bool.false_and, Bool.or_false]
      by_cases e : v.toNat = j
      · subst e; rw [hvb, Bool.false_and]
      · have : (v.toNat == j) = false := by simpa using e
        rw [this]; simp
    have e1 : wV V v true = V ||| 2 ^ v.toNat := by
      apply Nat.eq_of_testBit_eq
      intro j
      rw [wV_bit, Bool.true_and, Nat.testBit_or, Nat.testBit_two_pow]
      have e : decide (v.toNat = j) = (v.toNat == j) := rfl
      rw [e]
      cases V.testBit j <;> cases (v.toNat == j) <;> rfl
    have ih0 := sols_sl h us (v :: ws) V ho2 (fun j hj => by rw [mask_cons_bit, hv j hj, Bool.true_or])
    have ih1 := sols_sl h us (v :: ws) (V ||| 2 ^ v.toNat) ho2 (fun j hj => by
      rw [mask_cons_bit]
      rw [Nat.testBit_or, Nat.testBit_two_pow, Bool.or_eq_true] at hj
      rcases hj with hj | hj
      · rw [hv j hj, Bool.true_or]
      · have e : (v.toNat == j) = true := hj
        rw [e, Bool.or_true])
    rw [List.reverse_cons, sl_snoc l hch, List.map_append, eC, e0, e1, ih0, ih1]
    by_cases e : (l.any fun t => fl t (mask ws 0) V) = true
    · rw [if_pos e, ← List.map_append, ← sl_snoc l hch]
      obtain ⟨t, ht, hf⟩ := List.any_eq_true.1 e
      have hnil : sl l (us.reverse ++ [v]) V = [] := by
        unfold sl
        rw [List.filter_eq_nil_iff]
        intro a ha
        obtain ⟨i, hi2, rfl⟩ := List.mem_map.1 ha
        have : hs t.f0 t.f1 (asg (us.reverse ++ [v]) i ||| V) = false := by
          refine fl_sound hf (fun w hw => ?_)
          rw [Nat.testBit_or]
          by_cases hm : (mask ws 0).testBit w.toNat = true
          · rw [hm, Bool.and_true]
            have : (asg (us.reverse ++ [v]) i).testBit w.toNat = false := by
              rw [Bool.eq_false_iff]
              intro hb
              obtain ⟨m, u, hu, eu, _⟩ := (asg_bit hch i _).1 hb
              rw [mask_bit, Nat.zero_testBit, Bool.false_or, List.any_eq_true] at hm
              obtain ⟨x, hx, ex⟩ := hm
              have ex2 : x.toNat = w.toNat := by simpa using ex
              obtain ⟨n, hn⟩ := List.getElem?_of_mem hx
              have hml : m < (us.reverse ++ [v]).length := (List.getElem?_eq_some_iff.1 hu).1
              have hall := h.occ.1
              rw [ho, List.reverse_cons] at hall
              have i1 : ((us.reverse ++ [v]) ++ ws)[m]? = some u := by rw [List.getElem?_append_left hml]; exact hu
              have i2 : ((us.reverse ++ [v]) ++ ws)[(us.reverse ++ [v]).length + n]? = some x := by rw [List.getElem?_append_right (by omega)]; simpa using hn
              have := hall.inj _ _ _ _ i1 i2 (by omega)
              omega
            rw [this, Bool.false_or]
          · rw [Bool.not_eq_true] at hm
            have hvf : V.testBit w.toNat = false := by
              rw [Bool.eq_false_iff]
              intro hb
              rw [hv _ hb] at hm
              exact absurd hm (by simp)
            rw [hm, Bool.and_false, hvf]
        unfold sat
        rw [Bool.not_eq_true, List.all_eq_false]
        exact ⟨t, ht, by rw [this]; simp⟩
      rw [hnil]; rfl
    · rw [if_neg e]
/-- All solutions of a system. -/
def SS (l : List S61) : List Int := (sl l (occ l) 0).map fun a : Nat => (a : Int)
theorem allsearch_ev {l : List S61} (h : VS l) : Ev (fun k => solve_search.f k l (occ l) 0 0) (SS l) := by
  have h1 := search_ev h (occ l).reverse 0 0 (by decide) (by decide) (by rw [List.length_reverse]; exact h.occ_len) (fun v hv => h.occ' v (List.mem_reverse.1 hv))
  rw [List.reverse_reverse] at h1
  refine ev_eq h1 ?_
  have := sols_sl h (occ l).reverse [] 0 (by simp) (fun j hj => by simp at hj)
  rw [List.reverse_reverse] at this
  exact this
end Go.Proofs.Ytbagnalcabdlhaa.Pure
