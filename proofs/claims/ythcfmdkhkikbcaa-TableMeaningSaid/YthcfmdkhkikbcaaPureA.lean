/- The plain law behind A: about the printed functions alone, no memory and no Go in it. -/
import Derived.Test.YthcfmdkhkikbcaaPureEv
import Derived.Test.YthcfmdkhkikbcaaT1
namespace Go.Proofs.Ythcfmdkhkikbcaa.Pure
open Go.RowKit Go.Proofs.YthcfmdkhkikbcaaW.PrintWords Go.Proofs.Ythcfmdkhkikbcaa.T
set_option linter.unusedVariables false
set_option linter.unusedSimpArgs false
/-! ### Valid: what both sides compute -/
def chk (hi : Int) : Option Int → List Int → Int
  | _, [] => 0
  | none, x :: xs => if x < 0 ∨ hi ≤ x then 6 else chk hi (some x) xs
  | some q, x :: xs => if x < 0 ∨ hi ≤ x then 6 else if x ≤ q then 18 else chk hi (some x) xs
def Chn (hi : Int) : Option Int → List Int → Prop
  | _, [] => True
  | p, x :: xs => 0 ≤ x ∧ x < hi ∧ (∀ q, p = some q → q < x) ∧ Chn hi (some x) xs
theorem chk_Chn (hi : Int) : ∀ (xs : List Int) (p : Option Int), chk hi p xs = 0 ↔ Chn hi p xs
  | [], p => by cases p <;> simp [chk, Chn]
  | x :: xs, p => by
    have ih := chk_Chn hi xs (some x)
    cases p with
    | none =>
      simp only [chk, Chn]
      by_cases h : x < 0 ∨ hi ≤ x
      · rw [if_pos h]; exact ⟨fun h => by omega, fun h2 => by omega⟩
      · rw [if_neg h, ih]; exact ⟨fun h2 => ⟨by omega, by omega, (fun q hq => by cases hq), h2⟩, fun h2 => h2.2.2.2⟩
    | some q =>
      simp only [chk, Chn]
      by_cases h : x < 0 ∨ hi ≤ x
      · rw [if_pos h]; exact ⟨fun h => by omega, fun h2 => by omega⟩
      · rw [if_neg h]
        by_cases h1 : x ≤ q
        · rw [if_pos h1]; exact ⟨fun h => by omega, fun h2 => by have := h2.2.2.1 q rfl; omega⟩
        · rw [if_neg h1, ih]; exact ⟨fun h2 => ⟨by omega, by omega, fun q' hq => by injection hq; omega, h2⟩, fun h2 => h2.2.2.2⟩
def prv (xs : List Int) (i : Nat) : Option Int := if i = 0 then none else some (rd xs ((i : Int) - 1))
theorem prv_succ (xs : List Int) (i : Nat) : prv xs (i + 1) = some (rd xs i) := by
  unfold prv; rw [if_neg (by omega)]; congr 2; omega
theorem rd_at (l : List Int) (i : Nat) (hi : i < l.length) : l.drop i = rd l i :: l.drop (i + 1) := getD_drop l i 0 hi
theorem rd_mem (ps : List Int) (i : Nat) (hi : i < ps.length) : rd ps i ∈ ps := by
  unfold rd
  simp only [Int.toNat_natCast, List.getD, List.getElem?_eq_getElem hi, Option.getD_some]
  exact List.getElem_mem hi
theorem shl1 (n : Nat) (h : n ≤ 60) : shl .i64 1 (n : Int) = ((2 ^ n : Nat) : Int) := by
  have h2 : (2 : Nat) ^ n ≤ 2 ^ 60 := Nat.pow_le_pow_right (by decide) h
  unfold shl
  have e : min ((n : Int)).toNat IntKind.i64.bits = n := by
    have : IntKind.i64.bits = 64 := rfl
    rw [this]; omega
  rw [e, Int.one_mul, show ((2 : Int) ^ n) = ((2 ^ n : Nat) : Int) by simp]
  have h3 : (2 : Nat) ^ 60 = 1152921504606846976 := by decide
  rw [h3] at h2
  generalize (2 : Nat) ^ n = z at h2 ⊢
  rw [IntKind.wrap_i64]
  omega
def asc (vs : List Int) : Int := if (vs.length : Int) > 10 then 3 else chk 24 none vs
def valid (vs rs : List Int) : Int := if asc vs = 0 then chk ((2 ^ vs.length : Nat) : Int) none rs else asc vs
theorem asc_loop (vs : List Int) (hl : (vs.length : Int) ≤ 9223372036854775807) : ∀ (d i : Nat), i + d = vs.length → Ev (fun k => table_ascending.l0 k vs vs vs.length i) (chk 24 (prv vs i) (vs.drop i))
  | 0, i, h => by
    rw [List.drop_eq_nil_of_le (by omega)]
    refine Ev.step (f := fun _ => some 0) (fun k => by rw [table_ascending.l0, if_neg (by omega)]) ?_
    cases prv vs i <;> exact Ev.now _
  | d + 1, i, h => by
    have hi : i < vs.length := by omega
    have hw := wrap_succ i vs.length hi hl
    have ih := asc_loop vs hl d (i + 1) (by omega)
    rw [prv_succ] at ih
    rw [rd_at vs i hi]
    have hno : Ev (fun k => table_ascending.j1 k vs i (rd vs i) vs vs.length i true) 6 := Ev.step (f := fun _ => some 6) (fun k => by rw [table_ascending.j1, if_pos rfl]) (Ev.now _)
    have hj : rd vs i < 0 ∨ 24 ≤ rd vs i → ∀ p, chk 24 p (rd vs i :: vs.drop (i + 1)) = 6 := fun h p => by cases p <;> simp only [chk] <;> rw [if_pos h]
    by_cases h0 : rd vs i < 0
    · rw [hj (.inl h0)]
      exact Ev.step (fun k => by rw [table_ascending.l0, if_pos (by omega), if_pos (by omega), if_pos (by omega), if_pos h0]) hno
    · by_cases h1 : rd vs i ≥ 24
      · rw [hj (.inr h1)]
        exact Ev.step (fun k => by rw [table_ascending.l0, if_pos (by omega), if_pos (by omega), if_pos (by omega), if_neg h0, decide_eq_true h1]) hno
      · refine Ev.step (fun k => by rw [table_ascending.l0, if_pos (by omega), if_pos (by omega), if_pos (by omega), if_neg h0, decide_eq_false h1]) ?_
        by_cases e : i = 0
        · have ep : prv vs i = none := by unfold prv; rw [if_pos e]
          rw [ep]
          simp only [chk]
          rw [if_neg (by omega)]
          refine Ev.step (fun k => by rw [table_ascending.j1, if_neg (by simp), if_neg (by omega), hw]) ih
        · have ep : prv vs i = some (rd vs ((i : Int) - 1)) := by unfold prv; rw [if_neg e]
          rw [ep]
          simp only [chk]
          rw [if_neg (by omega)]
          by_cases h2 : rd vs i ≤ rd vs ((i : Int) - 1)
          · rw [if_pos h2]
            exact Ev.step (f := fun _ => some 18) (fun k => by rw [table_ascending.j1, if_neg (by simp), if_pos (by omega), w64_in ((i : Int) - 1) (by omega), if_pos (by omega), if_pos (by omega), if_pos (by omega)]) (Ev.now _)
          · rw [if_neg h2]
            refine Ev.step (fun k => by rw [table_ascending.j1, if_neg (by simp), if_pos (by omega), w64_in ((i : Int) - 1) (by omega), if_pos (by omega), if_pos (by omega), if_neg (by omega), hw]) ih
theorem asc_ev (vs : List Int) (hl : (vs.length : Int) ≤ 9223372036854775807) : Ev (fun k => table_ascending.f k vs) (asc vs) := by
  unfold asc table_ascending.f
  refine ev_ite (fun _ => Ev.now _) (fun _ => ?_)
  simpa [prv] using asc_loop vs hl vs.length 0 (by omega)
theorem valid_loop (vs rs : List Int) (hv : vs.length ≤ 10) (hl : (rs.length : Int) ≤ 9223372036854775807) : ∀ (d i : Nat), i + d = rs.length → Ev (fun k => table_Valid.l0 k rs rs.length i vs rs) (chk ((2 ^ vs.length : Nat) : Int) (prv rs i) (rs.drop i))
  | 0, i, h => by
    rw [List.drop_eq_nil_of_le (by omega)]
    refine Ev.step (f := fun _ => some 0) (fun k => by rw [table_Valid.l0, if_neg (by omega)]) ?_
    cases prv rs i <;> exact Ev.now _
  | d + 1, i, h => by
    have hi : i < rs.length := by omega
    have hw := wrap_succ i rs.length hi hl
    have ih := valid_loop vs rs hv hl d (i + 1) (by omega)
    have hs := shl1 vs.length (by omega)
    rw [prv_succ] at ih
    rw [rd_at rs i hi]
    have hno : Ev (fun k => table_Valid.j1 k i (rd rs i) rs rs.length i true vs rs) 6 := Ev.step (f := fun _ => some 6) (fun k => by rw [table_Valid.j1, if_pos rfl]) (Ev.now _)
    have hj : rd rs i < 0 ∨ ((2 ^ vs.length : Nat) : Int) ≤ rd rs i → ∀ p, chk ((2 ^ vs.length : Nat) : Int) p (rd rs i :: rs.drop (i + 1)) = 6 := fun h p => by cases p <;> simp only [chk] <;> rw [if_pos h]
    by_cases h0 : rd rs i < 0
    · rw [hj (.inl h0)]
      exact Ev.step (fun k => by rw [table_Valid.l0, if_pos (by omega), if_pos (by omega), if_pos (by omega), if_pos h0]) hno
    · by_cases h1 : rd rs i ≥ ((2 ^ vs.length : Nat) : Int)
      · rw [hj (.inr h1)]
        exact Ev.step (fun k => by rw [table_Valid.l0, if_pos (by omega), if_pos (by omega), if_pos (by omega), if_neg h0, hs, decide_eq_true h1]) hno
      · refine Ev.step (fun k => by rw [table_Valid.l0, if_pos (by omega), if_pos (by omega), if_pos (by omega), if_neg h0, hs, decide_eq_false h1]) ?_
        by_cases e : i = 0
        · have ep : prv rs i = none := by unfold prv; rw [if_pos e]
          rw [ep]
          simp only [chk]
          rw [if_neg (by omega)]
          refine Ev.step (fun k => by rw [table_Valid.j1, if_neg (by simp), if_neg (by omega), hw]) ih
        · have ep : prv rs i = some (rd rs ((i : Int) - 1)) := by unfold prv; rw [if_neg e]
          rw [ep]
          simp only [chk]
          rw [if_neg (by omega)]
          by_cases h2 : rd rs i ≤ rd rs ((i : Int) - 1)
          · rw [if_pos h2]
            exact Ev.step (f := fun _ => some 18) (fun k => by rw [table_Valid.j1, if_neg (by simp), if_pos (by omega), w64_in ((i : Int) - 1) (by omega), if_pos (by omega), if_pos (by omega), if_pos (by omega)]) (Ev.now _)
          · rw [if_neg h2]
            refine Ev.step (fun k => by rw [table_Valid.j1, if_neg (by simp), if_pos (by omega), w64_in ((i : Int) - 1) (by omega), if_pos (by omega), if_pos (by omega), if_neg (by omega), hw]) ih
theorem asc_len {vs : List Int} (h : asc vs = 0) : vs.length ≤ 10 := by
  unfold asc at h
  by_cases h1 : (vs.length : Int) > 10
  · rw [if_pos h1] at h; omega
  · omega
theorem valid_ev (vs rs : List Int) (hl : (vs.length : Int) ≤ 9223372036854775807) (hr : (rs.length : Int) ≤ 9223372036854775807) : Ev (fun k => table_Valid.f k vs rs) (valid vs rs) := by
  unfold valid
  refine Ev.bind (asc_ev vs hl) ?_
  refine ev_ite (fun h => ?_) (fun _ => Ev.now _)
  simpa [prv] using valid_loop vs rs (asc_len h) hr rs.length 0 (by omega)
/-- A table without errors. -/
structure VT (vs rs : List Int) : Prop where
  len : vs.length ≤ 10
  vars : Chn 24 none vs
  rows : Chn ((2 ^ vs.length : Nat) : Int) none rs
theorem asc_iff (vs : List Int) : asc vs = 0 ↔ vs.length ≤ 10 ∧ Chn 24 none vs := by
  unfold asc
  by_cases h1 : (vs.length : Int) > 10
  · rw [if_pos h1]; exact ⟨fun h => by omega, fun h => by omega⟩
  · rw [if_neg h1, chk_Chn]; exact ⟨fun h => ⟨by omega, h⟩, fun h => h.2⟩
theorem valid_VT (vs rs : List Int) : valid vs rs = 0 ↔ VT vs rs := by
  unfold valid
  by_cases h : asc vs = 0
  · rw [if_pos h, chk_Chn]
    have := (asc_iff vs).1 h
    exact ⟨fun h => ⟨this.1, this.2, h⟩, fun h => h.rows⟩
  · rw [if_neg h]
    exact ⟨fun h2 => absurd h2 h, fun h2 => absurd ((asc_iff vs).2 ⟨h2.len, h2.vars⟩) h⟩
theorem Chn.mem {hi : Int} : ∀ {ns : List Int} {p : Option Int}, Chn hi p ns → ∀ n, n ∈ ns → 0 ≤ n ∧ n < hi ∧ ∀ q, p = some q → q < n
  | [], _, _, n, h => by simp at h
  | m :: ns, p, ⟨h0, h1, h2, h3⟩, n, h => by
    rcases List.mem_cons.1 h with rfl | h
    · exact ⟨h0, h1, h2⟩
    · have := Chn.mem h3 n h
      exact ⟨this.1, this.2.1, fun q hq => by have := this.2.2 m rfl; have := h2 q hq; omega⟩
theorem Chn.weak {hi : Int} : ∀ {ns : List Int} {p : Option Int}, Chn hi p ns → Chn hi none ns
  | [], _, _ => trivial
  | _ :: _, _, ⟨h0, h1, _, h3⟩ => ⟨h0, h1, (fun q hq => by cases hq), h3⟩
/-- Two ascending lists with the same members are the same. -/
theorem Chn.same {hi hi' : Int} : ∀ {xs ys : List Int} {p q : Option Int}, Chn hi p xs → Chn hi' q ys → (∀ n, n ∈ xs ↔ n ∈ ys) → xs = ys
  | [], [], _, _, _, _, _ => rfl
  | [], y :: ys, _, _, _, _, h => by have := (h y).2 List.mem_cons_self; simp at this
  | x :: xs, [], _, _, _, _, h => by have := (h x).1 List.mem_cons_self; simp at this
  | x :: xs, y :: ys, p, q, ⟨a0, a1, a2, a3⟩, ⟨b0, b1, b2, b3⟩, h => by
    have e : x = y := by
      rcases List.mem_cons.1 ((h x).1 List.mem_cons_self) with h1 | h1
      · exact h1
      · rcases List.mem_cons.1 ((h y).2 List.mem_cons_self) with h2 | h2
        · exact h2.symm
        · have := (b3.mem x h1).2.2 y rfl
          have := (a3.mem y h2).2.2 x rfl
          omega
    subst e
    refine congrArg (x :: ·) (Chn.same a3 b3 (fun n => ⟨fun hn => ?_, fun hn => ?_⟩))
    · rcases List.mem_cons.1 ((h n).1 (List.mem_cons_of_mem _ hn)) with h1 | h1
      · have := (a3.mem n hn).2.2 x rfl; omega
      · exact h1
    · rcases List.mem_cons.1 ((h n).2 (List.mem_cons_of_mem _ hn)) with h1 | h1
      · have := (b3.mem n hn).2.2 x rfl; omega
      · exact h1
theorem Chn.filter {hi : Int} (f : Int → Bool) : ∀ {xs : List Int} {p : Option Int}, Chn hi p xs → Chn hi p (xs.filter f)
  | [], _, h => h
  | x :: xs, p, ⟨h0, h1, h2, h3⟩ => by
    have ih := h3.filter f
    rw [List.filter_cons]
    split
    · exact ⟨h0, h1, h2, ih⟩
    · revert ih
      generalize xs.filter f = zs
      intro ih
      cases zs with
      | nil => trivial
      | cons z zs => exact ⟨ih.1, ih.2.1, fun q hq => by have := h2 q hq; have := ih.2.2.1 x rfl; omega, ih.2.2.2⟩
/-! Bits. -/
theorem bit_add (b : Bool) (out i : Nat) (h : out < 2 ^ i) (j : Nat) : (out + b.toNat * 2 ^ i).testBit j = (out.testBit j || (b && decide (j = i))) := by
  rw [show out + b.toNat * 2 ^ i = 2 ^ i * b.toNat + out by rw [Nat.mul_comm, Nat.add_comm], Nat.testBit_two_pow_mul_add _ h]
  by_cases hj : j < i
  · rw [if_pos hj]
    have : decide (j = i) = false := decide_eq_false (by omega)
    rw [this, Bool.and_false, Bool.or_false]
  · rw [if_neg hj]
    have h1 : out.testBit j = false := Nat.testBit_lt_two_pow (Nat.lt_of_lt_of_le h (Nat.pow_le_pow_right (by decide) (by omega)))
    rw [h1, Bool.false_or]
    by_cases e : j = i
    · subst e; rw [Nat.sub_self]; cases b <;> simp
    · have : decide (j = i) = false := decide_eq_false e
      rw [this, Bool.and_false]
      refine Nat.testBit_lt_two_pow ?_
      have h2 : b.toNat < 2 := by cases b <;> simp
      have h3 : 2 ^ 1 ≤ 2 ^ (j - i) := Nat.pow_le_pow_right (by decide) (by omega)
      omega
theorem add_lt (b : Bool) (out i : Nat) (h : out < 2 ^ i) : out + b.toNat * 2 ^ i < 2 ^ (i + 1) := by
  rw [Nat.pow_succ]
  cases b
  · simp; omega
  · simp; omega
/-- What the code does with one bit. -/
theorem or_bit (x n i : Nat) (out : Nat) (hx : x < 2 ^ 60) (hn : n ≤ 60) (hi : i ≤ 60) (ho : out < 2 ^ i) :
    Go.bits .or .i64 (out : Int) (shl .i64 (Go.bits .and .i64 (shr .i64 (x : Int) (n : Int)) 1) (i : Int)) = ((out + (x.testBit n).toNat * 2 ^ i : Nat) : Int) := by
  have hw : ∀ z : Int, 0 ≤ z → z < 2 ^ 62 → IntKind.i64.wrap z = z := fun z h0 h1 => by
    rw [IntKind.wrap_i64]
    have : (2 : Int) ^ 62 = 4611686018427387904 := by decide
    omega
  have hb : IntKind.i64.bits = 64 := rfl
  have h1 : shr .i64 (x : Int) (n : Int) = ((x / 2 ^ n : Nat) : Int) := by
    unfold shr
    rw [hb, show min ((n : Int)).toNat 64 = n by omega]
    simp
  have hxd : x / 2 ^ n < 2 ^ 62 := Nat.lt_of_le_of_lt (Nat.div_le_self _ _) (Nat.lt_of_lt_of_le hx (by decide))
  have h2 : Go.bits .and .i64 ((x / 2 ^ n : Nat) : Int) 1 = (((x.testBit n).toNat : Nat) : Int) := by
    have := (bits_nat .i64 62 (by decide) hw (x / 2 ^ n) 1 hxd (by decide)).1
    rw [Nat.and_one_is_mod, ← Nat.toNat_testBit] at this
    exact this
  have hip : (2 : Nat) ^ i ≤ 2 ^ 60 := Nat.pow_le_pow_right (by decide) hi
  have h60 : (2 : Nat) ^ 60 = 1152921504606846976 := by decide
  have hbl : (x.testBit n).toNat * 2 ^ i ≤ 2 ^ i := by cases x.testBit n <;> simp
  have h3 : shl .i64 (((x.testBit n).toNat : Nat) : Int) (i : Int) = (((x.testBit n).toNat * 2 ^ i : Nat) : Int) := by
    unfold shl
    rw [hb, show min ((i : Int)).toNat 64 = i by omega]
    have e : (((x.testBit n).toNat : Nat) : Int) * 2 ^ i = (((x.testBit n).toNat * 2 ^ i : Nat) : Int) := by simp
    rw [e]
    exact hw _ (by omega) (by have : (2 : Int) ^ 62 = 4611686018427387904 := by decide
                              omega)
  rw [h1, h2, h3]
  have h62 : (2 : Nat) ^ 62 = 4611686018427387904 := by decide
  rw [(bits_nat .i64 62 (by decide) hw out _ (by omega) (by omega)).2]
  congr 1
  rw [Nat.or_comm, Nat.mul_comm, ← Nat.two_pow_add_eq_or_of_lt ho, Nat.add_comm]
def rowF (a : Nat) : List Int → Nat → Nat → Nat
  | [], _, out => out
  | v :: vs, i, out => rowF a vs (i + 1) (out + (a.testBit v.toNat).toNat * 2 ^ i)
def asgF (r : Nat) : List Int → Nat → Nat → Nat
  | [], _, out => out
  | v :: vs, i, out => asgF r vs (i + 1) (out + (r.testBit i).toNat * 2 ^ v.toNat)
theorem rowF_lt (a : Nat) : ∀ (vs : List Int) (i out : Nat), out < 2 ^ i → rowF a vs i out < 2 ^ (i + vs.length)
  | [], _, _, h => h
  | v :: vs, i, out, h => by
    have := rowF_lt a vs (i + 1) _ (add_lt (a.testBit v.toNat) out i h)
    rw [rowF, List.length_cons, show i + (vs.length + 1) = i + 1 + vs.length by omega]
    exact this
theorem rowF_bit (a : Nat) : ∀ (vs : List Int) (i out : Nat), out < 2 ^ i → ∀ j, ((rowF a vs i out).testBit j = true ↔ out.testBit j = true ∨ ∃ m v, vs[m]? = some v ∧ j = i + m ∧ a.testBit v.toNat = true)
  | [], _, _, _, j => by simp [rowF]
  | v :: vs, i, out, h, j => by
    rw [rowF, rowF_bit a vs (i + 1) _ (add_lt (a.testBit v.toNat) out i h) j, bit_add _ _ _ h]
    constructor
    · rintro (h1 | ⟨m, u, h1, h2, h3⟩)
      · rcases Bool.or_eq_true_iff.1 h1 with h1 | h1
        · exact .inl h1
        · rw [Bool.and_eq_true, decide_eq_true_eq] at h1
          exact .inr ⟨0, v, rfl, by omega, h1.1⟩
      · exact .inr ⟨m + 1, u, by simpa using h1, by omega, h3⟩
    · rintro (h1 | ⟨m, u, h1, h2, h3⟩)
      · exact .inl (by rw [h1]; rfl)
      · cases m with
        | zero =>
          obtain rfl : v = u := by simpa using h1
          exact .inl (by rw [h3, decide_eq_true (show j = i by omega)]; simp)
        | succ m => exact .inr ⟨m, u, by simpa using h1, by omega, h3⟩
/-- What lies below a chain's next number is below all of them. -/
def Under (out : Nat) : List Int → Prop
  | [] => True
  | v :: _ => out < 2 ^ v.toNat
theorem under_next {hi : Int} {v : Int} {vs : List Int} (h : Chn hi (some v) vs) (h0 : 0 ≤ v) {out : Nat} (ho : out < 2 ^ (v.toNat + 1)) : Under out vs := by
  cases vs with
  | nil => trivial
  | cons u us =>
    have := h.2.2.1 v rfl
    exact Nat.lt_of_lt_of_le ho (Nat.pow_le_pow_right (by decide) (by omega))
theorem asgF_bit (r : Nat) {hi : Int} : ∀ (vs : List Int) (p : Option Int) (i out : Nat), Chn hi p vs → Under out vs → ∀ j, ((asgF r vs i out).testBit j = true ↔ out.testBit j = true ∨ ∃ m v, vs[m]? = some v ∧ j = v.toNat ∧ r.testBit (i + m) = true)
  | [], _, _, _, _, _, j => by simp [asgF]
  | v :: vs, p, i, out, ⟨h0, h1, h2, h3⟩, hu, j => by
    have hl := add_lt (r.testBit i) out v.toNat hu
    rw [asgF, asgF_bit r vs (some v) (i + 1) _ h3 (under_next h3 h0 hl) j, bit_add _ _ _ hu]
    constructor
    · rintro (h1 | ⟨m, u, h1, h2, h3⟩)
      · rcases Bool.or_eq_true_iff.1 h1 with h1 | h1
        · exact .inl h1
        · rw [Bool.and_eq_true, decide_eq_true_eq] at h1
          exact .inr ⟨0, v, rfl, h1.2, h1.1⟩
      · exact .inr ⟨m + 1, u, by simpa using h1, h2, by rw [show i + (m + 1) = i + 1 + m by omega]; exact h3⟩
    · rintro (h1 | ⟨m, u, h1, h2, h3⟩)
      · exact .inl (by rw [h1]; rfl)
      · cases m with
        | zero =>
          obtain rfl : v = u := by simpa using h1
          rw [Nat.add_zero] at h3
          exact .inl (by rw [h3, decide_eq_true h2]; simp)
        | succ m => exact .inr ⟨m, u, by simpa using h1, h2, by rw [show i + 1 + m = i + (m + 1) by omega]; exact h3⟩
theorem asgF_lt (r : Nat) {hi : Int} (hhi : 0 ≤ hi) : ∀ (vs : List Int) (p : Option Int) (i out : Nat), Chn hi p vs → Under out vs → out < 2 ^ hi.toNat → asgF r vs i out < 2 ^ hi.toNat
  | [], _, _, _, _, _, ho => ho
  | v :: vs, p, i, out, ⟨h0, h1, h2, h3⟩, hu, _ => by
    have hl := add_lt (r.testBit i) out v.toNat hu
    rw [asgF]
    refine asgF_lt r hhi vs (some v) (i + 1) _ h3 (under_next h3 h0 hl) (Nat.lt_of_lt_of_le hl (Nat.pow_le_pow_right (by decide) (by omega)))
def row (vs : List Int) (a : Nat) : Nat := rowF a vs 0 0
def asg (vs : List Int) (r : Nat) : Nat := asgF r vs 0 0
theorem row_lt (vs : List Int) (a : Nat) : row vs a < 2 ^ vs.length := by
  have := rowF_lt a vs 0 0 (by decide)
  rw [Nat.zero_add] at this
  exact this
theorem row_bit (vs : List Int) (a j : Nat) : (row vs a).testBit j = true ↔ ∃ v, vs[j]? = some v ∧ a.testBit v.toNat = true := by
  unfold row
  rw [rowF_bit a vs 0 0 (by decide)]
  constructor
  · rintro (h | ⟨m, v, h1, h2, h3⟩)
    · simp at h
    · obtain rfl : j = m := by omega
      exact ⟨v, h1, h3⟩
  · rintro ⟨v, h1, h2⟩
    exact .inr ⟨j, v, h1, by omega, h2⟩
theorem under_zero (vs : List Int) : Under 0 vs := by cases vs <;> simp [Under, Nat.two_pow_pos]
theorem asg_bit {hi : Int} {vs : List Int} (h : Chn hi none vs) (r j : Nat) : (asg vs r).testBit j = true ↔ ∃ m v, vs[m]? = some v ∧ j = v.toNat ∧ r.testBit m = true := by
  unfold asg
  rw [asgF_bit r vs none 0 0 h (under_zero vs)]
  simp
theorem asg_lt {vs : List Int} (h : Chn 24 none vs) (r : Nat) : asg vs r < 2 ^ 24 := asgF_lt r (by decide) vs none 0 0 h (under_zero vs) (Nat.two_pow_pos _)
theorem Chn.inj {hi : Int} : ∀ {vs : List Int} {p : Option Int}, Chn hi p vs → ∀ (i j : Nat) (u v : Int), vs[i]? = some u → vs[j]? = some v → u.toNat = v.toNat → i = j
  | [], _, _, i, j, u, v, h, _, _ => by simp at h
  | x :: xs, p, ⟨h0, h1, h2, h3⟩, i, j, u, v, hi, hj, e => by
    cases i with
    | zero =>
      obtain rfl : x = u := by simpa using hi
      cases j with
      | zero => rfl
      | succ j =>
        have hj' : xs[j]? = some v := by simpa using hj
        have := h3.mem v (List.mem_of_getElem? hj')
        have := this.2.2 x rfl
        omega
    | succ i =>
      have hi' : xs[i]? = some u := by simpa using hi
      cases j with
      | zero =>
        obtain rfl : x = v := by simpa using hj
        have := h3.mem u (List.mem_of_getElem? hi')
        have := this.2.2 x rfl
        omega
      | succ j => rw [Chn.inj h3 i j u v hi' (by simpa using hj) e]
theorem row_asg {hi : Int} {vs : List Int} (h : Chn hi none vs) {r : Nat} (hr : r < 2 ^ vs.length) : row vs (asg vs r) = r := by
  apply Nat.eq_of_testBit_eq
  intro j
  rw [Bool.eq_iff_iff, row_bit]
  constructor
  · rintro ⟨v, hv, hb⟩
    obtain ⟨m, u, hm, e, hr⟩ := (asg_bit h r _).1 hb
    rw [h.inj j m v u hv hm e]; exact hr
  · intro hb
    have hj : j < vs.length := by
      rcases Nat.lt_or_ge j vs.length with h1 | h1
      · exact h1
      · rw [Nat.testBit_lt_two_pow (Nat.lt_of_lt_of_le hr (Nat.pow_le_pow_right (by decide) h1))] at hb; exact absurd hb (by simp)
    exact ⟨vs[j], List.getElem?_eq_getElem hj, (asg_bit h r _).2 ⟨j, vs[j], List.getElem?_eq_getElem hj, rfl, hb⟩⟩
end Go.Proofs.Ythcfmdkhkikbcaa.Pure
