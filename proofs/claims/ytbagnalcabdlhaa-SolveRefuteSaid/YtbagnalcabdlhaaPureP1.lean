/- The plain law behind P1: about the printed functions alone, no memory and no Go in it. -/
import Derived.Test.YtbagnalcabdlhaaPureEv
import Derived.Test.YtbagnalcabdlhaaS2
import Derived.Test.YtbagnalcabdlhaaS8
import Derived.Test.YtbagnalcabdlhaaS10
import Derived.Test.YtbagnalcabdlhaaS11
namespace Go.Proofs.Ytbagnalcabdlhaa.Pure
open Go.RowKit Go.Proofs.YtbagnalcabdlhaaW.PrintWords Go.Proofs.Ytbagnalcabdlhaa.S
set_option linter.unusedVariables false
set_option linter.unusedSimpArgs false
/-! ### Valid: what both sides compute -/
def chk (hi : Int) : Option Int → List Int → Int
  | _, [] => 0
  | none, x :: xs => if x < 0 ∨ hi ≤ x then 6 else chk hi (some x) xs
  | some q, x :: xs => if x < 0 ∨ hi ≤ x then 6 else if x ≤ q then 18 else chk hi (some x) xs
def Chn (hi : Int) : Option Int → List Int → Prop
  | _, [] => True
  | p, x :: xs => 0 ≤ x ∧ x < hi ∧ (∀ q, p = some q → q < x) ∧ Chn hi (some x) xs
theorem chk_Chn (hi : Int) : ∀ (xs : List Int) (p : Option Int), chk hi p xs = 0 ↔ Chn hi p xs
  | [], p => by cases p <;> simp [chk, Chn]
  | x :: xs, p => by
    have ih := chk_Chn hi xs (some x)
    cases p with
    | none =>
      simp only [chk, Chn]
      by_cases h : x < 0 ∨ hi ≤ x
      · rw [if_pos h]; exact ⟨fun h => by omega, fun h2 => by omega⟩
      · rw [if_neg h, ih]; exact ⟨fun h2 => ⟨by omega, by omega, (fun q hq => by cases hq), h2⟩, fun h2 => h2.2.2.2⟩
    | some q =>
      simp only [chk, Chn]
      by_cases h : x < 0 ∨ hi ≤ x
      · rw [if_pos h]; exact ⟨fun h => by omega, fun h2 => by omega⟩
      · rw [if_neg h]
        by_cases h1 : x ≤ q
        · rw [if_pos h1]; exact ⟨fun h => by omega, fun h2 => by have := h2.2.2.1 q rfl; omega⟩
        · rw [if_neg h1, ih]; exact ⟨fun h2 => ⟨by omega, by omega, fun q' hq => by injection hq; omega, h2⟩, fun h2 => h2.2.2.2⟩
def prv (xs : List Int) (i : Nat) : Option Int := if i = 0 then none else some (rd xs ((i : Int) - 1))
theorem prv_succ (xs : List Int) (i : Nat) : prv xs (i + 1) = some (rd xs i) := by
  unfold prv; rw [if_neg (by omega)]; congr 2; omega
theorem rd_at (l : List Int) (i : Nat) (hi : i < l.length) : l.drop i = rd l i :: l.drop (i + 1) := getD_drop l i 0 hi
theorem rd_mem (ps : List Int) (i : Nat) (hi : i < ps.length) : rd ps i ∈ ps := by
  unfold rd
  simp only [Int.toNat_natCast, List.getD, List.getElem?_eq_getElem hi, Option.getD_some]
  exact List.getElem_mem hi
theorem shl1 (n : Nat) (h : n ≤ 60) : shl .i64 1 (n : Int) = ((2 ^ n : Nat) : Int) := by
  have h2 : (2 : Nat) ^ n ≤ 2 ^ 60 := Nat.pow_le_pow_right (by decide) h
  unfold shl
  have e : min ((n : Int)).toNat IntKind.i64.bits = n := by
    have : IntKind.i64.bits = 64 := rfl
    rw [this]; omega
  rw [e, Int.one_mul, show ((2 : Int) ^ n) = ((2 ^ n : Nat) : Int) by simp]
  have h3 : (2 : Nat) ^ 60 = 1152921504606846976 := by decide
  rw [h3] at h2
  generalize (2 : Nat) ^ n = z at h2 ⊢
  rw [IntKind.wrap_i64]
  omega
def asc (vs : List Int) : Int := if (vs.length : Int) > 10 then 3 else chk 24 none vs
def valid (vs rs : List Int) : Int := if asc vs = 0 then chk ((2 ^ vs.length : Nat) : Int) none rs else asc vs
theorem asc_loop (vs : List Int) (hl : (vs.length : Int) ≤ 9223372036854775807) : ∀ (d i : Nat), i + d = vs.length → Ev (fun k => table_ascending.l0 k vs vs vs.length i) (chk 24 (prv vs i) (vs.drop i))
  | 0, i, h => by
    rw [List.drop_eq_nil_of_le (by omega)]
    refine Ev.step (f := fun _ => some 0) (fun k => by rw [table_ascending.l0, if_neg (by omega)]) ?_
    cases prv vs i <;> exact Ev.now _
  | d + 1, i, h => by
    have hi : i < vs.length := by omega
    have hw := wrap_succ i vs.length hi hl
    have ih := asc_loop vs hl d (i + 1) (by omega)
    rw [prv_succ] at ih
    rw [rd_at vs i hi]
    have hno : Ev (fun k => table_ascending.j1 k vs i (rd vs i) vs vs.length i true) 6 := Ev.step (f := fun _ => some 6) (fun k => by rw [table_ascending.j1, if_pos rfl]) (Ev.now _)
    have hj : rd vs i < 0 ∨ 24 ≤ rd vs i → ∀ p, chk 24 p (rd vs i :: vs.drop (i + 1)) = 6 := fun h p => by cases p <;> simp only [chk] <;> rw [if_pos h]
    by_cases h0 : rd vs i < 0
    · rw [hj (.inl h0)]
      exact Ev.step (fun k => by rw [table_ascending.l0, if_pos (by omega), if_pos (by omega), if_pos (by omega), if_pos h0]) hno
    · by_cases h1 : rd vs i ≥ 24
      · rw [hj (.inr h1)]
        exact Ev.step (fun k => by rw [table_ascending.l0, if_pos (by omega), if_pos (by omega), if_pos (by omega), if_neg h0, decide_eq_true h1]) hno
      · refine Ev.step (fun k => by rw [table_ascending.l0, if_pos (by omega), if_pos (by omega), if_pos (by omega), if_neg h0, decide_eq_false h1]) ?_
        by_cases e : i = 0
        · have ep : prv vs i = none := by unfold prv; rw [if_pos e]
          rw [ep]
          simp only [chk]
          rw [if_neg (by omega)]
          refine Ev.step (fun k => by rw [table_ascending.j1, if_neg (by simp), if_neg (by omega), hw]) ih
        · have ep : prv vs i = some (rd vs ((i : Int) - 1)) := by unfold prv; rw [if_neg e]
          rw [ep]
          simp only [chk]
          rw [if_neg (by omega)]
          by_cases h2 : rd vs i ≤ rd vs ((i : Int) - 1)
          · rw [if_pos h2]
            exact Ev.step (f := fun _ => some 18) (fun k => by rw [table_ascending.j1, if_neg (by simp), if_pos (by omega), w64_in ((i : Int) - 1) (by omega), if_pos (by omega), if_pos (by omega), if_pos (by omega)]) (Ev.now _)
          · rw [if_neg h2]
            refine Ev.step (fun k => by rw [table_ascending.j1, if_neg (by simp), if_pos (by omega), w64_in ((i : Int) - 1) (by omega), if_pos (by omega), if_pos (by omega), if_neg (by omega), hw]) ih
theorem asc_ev (vs : List Int) (hl : (vs.length : Int) ≤ 9223372036854775807) : Ev (fun k => table_ascending.f k vs) (asc vs) := by
  unfold asc table_ascending.f
  refine ev_ite (fun _ => Ev.now _) (fun _ => ?_)
  simpa [prv] using asc_loop vs hl vs.length 0 (by omega)
theorem valid_loop (vs rs : List Int) (hv : vs.length ≤ 10) (hl : (rs.length : Int) ≤ 9223372036854775807) : ∀ (d i : Nat), i + d = rs.length → Ev (fun k => table_Valid.l0 k rs rs.length i vs rs) (chk ((2 ^ vs.length : Nat) : Int) (prv rs i) (rs.drop i))
  | 0, i, h => by
    rw [List.drop_eq_nil_of_le (by omega)]
    refine Ev.step (f := fun _ => some 0) (fun k => by rw [table_Valid.l0, if_neg (by omega)]) ?_
    cases prv rs i <;> exact Ev.now _
  | d + 1, i, h => by
    have hi : i < rs.length := by omega
    have hw := wrap_succ i rs.length hi hl
    have ih := valid_loop vs rs hv hl d (i + 1) (by omega)
    have hs := shl1 vs.length (by omega)
    rw [prv_succ] at ih
    rw [rd_at rs i hi]
    have hno : Ev (fun k => table_Valid.j1 k i (rd rs i) rs rs.length i true vs rs) 6 := Ev.step (f := fun _ => some 6) (fun k => by rw [table_Valid.j1, if_pos rfl]) (Ev.now _)
    have hj : rd rs i < 0 ∨ ((2 ^ vs.length : Nat) : Int) ≤ rd rs i → ∀ p, chk ((2 ^ vs.length : Nat) : Int) p (rd rs i :: rs.drop (i + 1)) = 6 := fun h p => by cases p <;> simp only [chk] <;> rw [if_pos h]
    by_cases h0 : rd rs i < 0
    · rw [hj (.inl h0)]
      exact Ev.step (fun k => by rw [table_Valid.l0, if_pos (by omega), if_pos (by omega), if_pos (by omega), if_pos h0]) hno
    · by_cases h1 : rd rs i ≥ ((2 ^ vs.length : Nat) : Int)
      · rw [hj (.inr h1)]
        exact Ev.step (fun k => by rw [table_Valid.l0, if_pos (by omega), if_pos (by omega), if_pos (by omega), if_neg h0, hs, decide_eq_true h1]) hno
      · refine Ev.step (fun k => by rw [table_Valid.l0, if_pos (by omega), if_pos (by omega), if_pos (by omega), if_neg h0, hs, decide_eq_false h1]) ?_
        by_cases e : i = 0
        · have ep : prv rs i = none := by unfold prv; rw [if_pos e]
          rw [ep]
          simp only [chk]
          rw [if_neg (by omega)]
          refine Ev.step (fun k => by rw [table_Valid.j1, if_neg (by simp), if_neg (by omega), hw]) ih
        · have ep : prv rs i = some (rd rs ((i : Int) - 1)) := by unfold prv; rw [if_neg e]
          rw [ep]
          simp only [chk]
          rw [if_neg (by omega)]
          by_cases h2 : rd rs i ≤ rd rs ((i : Int) - 1)
          · rw [if_pos h2]
            exact Ev.step (f := fun _ => some 18) (fun k => by rw [table_Valid.j1, if_neg (by simp), if_pos (by omega), w64_in ((i : Int) - 1) (by omega), if_pos (by omega), if_pos (by omega), if_pos (by omega)]) (Ev.now _)
          · rw [if_neg h2]
            refine Ev.step (fun k => by rw [table_Valid.j1, if_neg (by simp), if_pos (by omega), w64_in ((i : Int) - 1) (by omega), if_pos (by omega), if_pos (by omega), if_neg (by omega), hw]) ih
theorem asc_len {vs : List Int} (h : asc vs = 0) : vs.length ≤ 10 := by
  unfold asc at h
  by_cases h1 : (vs.length : Int) > 10
  · rw [if_pos h1] at h; omega
  · omega
theorem valid_ev (vs rs : List Int) (hl : (vs.length : Int) ≤ 9223372036854775807) (hr : (rs.length : Int) ≤ 9223372036854775807) : Ev (fun k => table_Valid.f k vs rs) (valid vs rs) := by
  unfold valid
  refine Ev.bind (asc_ev vs hl) ?_
  refine ev_ite (fun h => ?_) (fun _ => Ev.now _)
  simpa [prv] using valid_loop vs rs (asc_len h) hr rs.length 0 (by omega)
/-- A table without errors. -/
structure VT (vs rs : List Int) : Prop where
  len : vs.length ≤ 10
  vars : Chn 24 none vs
  rows : Chn ((2 ^ vs.length : Nat) : Int) none rs
theorem asc_iff (vs : List Int) : asc vs = 0 ↔ vs.length ≤ 10 ∧ Chn 24 none vs := by
  unfold asc
  by_cases h1 : (vs.length : Int) > 10
  · rw [if_pos h1]; exact ⟨fun h => by omega, fun h => by omega⟩
  · rw [if_neg h1, chk_Chn]; exact ⟨fun h => ⟨by omega, h⟩, fun h => h.2⟩
theorem valid_VT (vs rs : List Int) : valid vs rs = 0 ↔ VT vs rs := by
  unfold valid
  by_cases h : asc vs = 0
  · rw [if_pos h, chk_Chn]
    have := (asc_iff vs).1 h
    exact ⟨fun h => ⟨this.1, this.2, h⟩, fun h => h.rows⟩
  · rw [if_neg h]
    exact ⟨fun h2 => absurd h2 h, fun h2 => absurd ((asc_iff vs).2 ⟨h2.len, h2.vars⟩) h⟩
theorem Chn.mem {hi : Int} : ∀ {ns : List Int} {p : Option Int}, Chn hi p ns → ∀ n, n ∈ ns → 0 ≤ n ∧ n < hi ∧ ∀ q, p = some q → q < n
  | [], _, _, n, h => by simp at h
  | m :: ns, p, ⟨h0, h1, h2, h3⟩, n, h => by
    rcases List.mem_cons.1 h with rfl | h
    · exact ⟨h0, h1, h2⟩
    · have := Chn.mem h3 n h
      exact ⟨this.1, this.2.1, fun q hq => by have := this.2.2 m rfl; have := h2 q hq; omega⟩
theorem Chn.weak {hi : Int} : ∀ {ns : List Int} {p : Option Int}, Chn hi p ns → Chn hi none ns
  | [], _, _ => trivial
  | _ :: _, _, ⟨h0, h1, _, h3⟩ => ⟨h0, h1, (fun q hq => by cases hq), h3⟩
/-- Two ascending lists with the same members are the same. -/
theorem Chn.same {hi hi' : Int} : ∀ {xs ys : List Int} {p q : Option Int}, Chn hi p xs → Chn hi' q ys → (∀ n, n ∈ xs ↔ n ∈ ys) → xs = ys
  | [], [], _, _, _, _, _ => rfl
  | [], y :: ys, _, _, _, _, h => by have := (h y).2 List.mem_cons_self; simp at this
  | x :: xs, [], _, _, _, _, h => by have := (h x).1 List.mem_cons_self; simp at this
  | x :: xs, y :: ys, p, q, ⟨a0, a1, a2, a3⟩, ⟨b0, b1, b2, b3⟩, h => by
    have e : x = y := by
      rcases List.mem_cons.1 ((h x).1 List.mem_cons_self) with h1 | h1
      · exact h1
      · rcases List.mem_cons.1 ((h y).2 List.mem_cons_self) with h2 | h2
        · exact h2.symm
        · have := (b3.mem x h1).2.2 y rfl
          have := (a3.mem y h2).2.2 x rfl
          omega
    subst e
    refine congrArg (x :: ·) (Chn.same a3 b3 (fun n => ⟨fun hn => ?_, fun hn => ?_⟩))
    · rcases List.mem_cons.1 ((h n).1 (List.mem_cons_of_mem _ hn)) with h1 | h1
      · have := (a3.mem n hn).2.2 x rfl; omega
      · exact h1
    · rcases List.mem_cons.1 ((h n).2 (List.mem_cons_of_mem _ hn)) with h1 | h1
      · have := (b3.mem n hn).2.2 x rfl; omega
      · exact h1
theorem Chn.filter {hi : Int} (f : Int → Bool) : ∀ {xs : List Int} {p : Option Int}, Chn hi p xs → Chn hi p (xs.filter f)
  | [], _, h => h
  | x :: xs, p, ⟨h0, h1, h2, h3⟩ => by
    have ih := h3.filter f
    rw [List.filter_cons]
    split
    · exact ⟨h0, h1, h2, ih⟩
    · revert ih
      generalize xs.filter f = zs
      intro ih
      cases zs with
      | nil => trivial
      | cons z zs => exact ⟨ih.1, ih.2.1, fun q hq => by have := h2 q hq; have := ih.2.2.1 x rfl; omega, ih.2.2.2⟩
/-! Bits. -/
theorem bit_add (b : Bool) (out i : Nat) (h : out < 2 ^ i) (j : Nat) : (out + b.toNat * 2 ^ i).testBit j = (out.testBit j || (b && decide (j = i))) := by
  rw [show out + b.toNat * 2 ^ i = 2 ^ i * b.toNat + out by rw [Nat.mul_comm, Nat.add_comm], Nat.testBit_two_pow_mul_add _ h]
  by_cases hj : j < i
  · rw [if_pos hj]
    have : decide (j = i) = false := decide_eq_false (by omega)
    rw [this, Bool.and_false, Bool.or_false]
  · rw [if_neg hj]
    have h1 : out.testBit j = false := Nat.testBit_lt_two_pow (Nat.lt_of_lt_of_le h (Nat.pow_le_pow_right (by decide) (by omega)))
    rw [h1, Bool.false_or]
    by_cases e : j = i
    · subst e; rw [Nat.sub_self]; cases b <;> simp
    · have : decide (j = i) = false := decide_eq_false e
      rw [this, Bool.and_false]
      refine Nat.testBit_lt_two_pow ?_
      have h2 : b.toNat < 2 := by cases b <;> simp
      have h3 : 2 ^ 1 ≤ 2 ^ (j - i) := Nat.pow_le_pow_right (by decide) (by omega)
      omega
theorem add_lt (b : Bool) (out i : Nat) (h : out < 2 ^ i) : out + b.toNat * 2 ^ i < 2 ^ (i + 1) := by
  rw [Nat.pow_succ]
  cases b
  · simp; omega
  · simp; omega
/-- What the code does with one bit. -/
theorem or_bit (x n i : Nat) (out : Nat) (hx : x < 2 ^ 60) (hn : n ≤ 60) (hi : i ≤ 60) (ho : out < 2 ^ i) :
    Go.bits .or .i64 (out : Int) (shl .i64 (Go.bits .and .i64 (shr .i64 (x : Int) (n : Int)) 1) (i : Int)) = ((out + (x.testBit n).toNat * 2 ^ i : Nat) : Int) := by
  have hw : ∀ z : Int, 0 ≤ z → z < 2 ^ 62 → IntKind.i64.wrap z = z := fun z h0 h1 => by
    rw [IntKind.wrap_i64]
    have : (2 : Int) ^ 62 = 4611686018427387904 := by decide
    omega
  have hb : IntKind.i64.bits = 64 := rfl
  have h1 : shr .i64 (x : Int) (n : Int) = ((x / 2 ^ n : Nat) : Int) := by
    unfold shr
    rw [hb, show min ((n : Int)).toNat 64 = n by omega]
    simp
  have hxd : x / 2 ^ n < 2 ^ 62 := Nat.lt_of_le_of_lt (Nat.div_le_self _ _) (Nat.lt_of_lt_of_le hx (by decide))
  have h2 : Go.bits .and .i64 ((x / 2 ^ n : Nat) : Int) 1 = (((x.testBit n).toNat : Nat) : Int) := by
    have := (bits_nat .i64 62 (by decide) hw (x / 2 ^ n) 1 hxd (by decide)).1
    rw [Nat.and_one_is_mod, ← Nat.toNat_testBit] at this
    exact this
  have hip : (2 : Nat) ^ i ≤ 2 ^ 60 := Nat.pow_le_pow_right (by decide) hi
  have h60 : (2 : Nat) ^ 60 = 1152921504606846976 := by decide
  have hbl : (x.testBit n).toNat * 2 ^ i ≤ 2 ^ i := by cases x.testBit n <;> simp
  have h3 : shl .i64 (((x.testBit n).toNat : Nat) : Int) (i : Int) = (((x.testBit n).toNat * 2 ^ i : Nat) : Int) := by
    unfold shl
    rw [hb, show min ((i : Int)).toNat 64 = i by omega]
    have e : (((x.testBit n).toNat : Nat) : Int) * 2 ^ i = (((x.testBit n).toNat * 2 ^ i : Nat) : Int) := by simp
    rw [e]
    exact hw _ (by omega) (by have : (2 : Int) ^ 62 = 4611686018427387904 := by decide
                              omega)
  rw [h1, h2, h3]
  have h62 : (2 : Nat) ^ 62 = 4611686018427387904 := by decide
  rw [(bits_nat .i64 62 (by decide) hw out _ (by omega) (by omega)).2]
  congr 1
  rw [Nat.or_comm, Nat.mul_comm, ← Nat.two_pow_add_eq_or_of_lt ho, Nat.add_comm]
def rowF (a : Nat) : List Int → Nat → Nat → Nat
  | [], _, out => out
  | v :: vs, i, out => rowF a vs (i + 1) (out + (a.testBit v.toNat).toNat * 2 ^ i)
def asgF (r : Nat) : List Int → Nat → Nat → Nat
  | [], _, out => out
  | v :: vs, i, out => asgF r vs (i + 1) (out + (r.testBit i).toNat * 2 ^ v.toNat)
theorem rowF_lt (a : Nat) : ∀ (vs : List Int) (i out : Nat), out < 2 ^ i → rowF a vs i out < 2 ^ (i + vs.length)
  | [], _, _, h => h
  | v :: vs, i, out, h => by
    have := rowF_lt a vs (i + 1) _ (add_lt (a.testBit v.toNat) out i h)
    rw [rowF, List.length_cons, show i + (vs.length + 1) = i + 1 + vs.length by omega]
    exact this
theorem rowF_bit (a : Nat) : ∀ (vs : List Int) (i out : Nat), out < 2 ^ i → ∀ j, ((rowF a vs i out).testBit j = true ↔ out.testBit j = true ∨ ∃ m v, vs[m]? = some v ∧ j = i + m ∧ a.testBit v.toNat = true)
  | [], _, _, _, j => by simp [rowF]
  | v :: vs, i, out, h, j => by
    rw [rowF, rowF_bit a vs (i + 1) _ (add_lt (a.testBit v.toNat) out i h) j, bit_add _ _ _ h]
    constructor
    · rintro (h1 | ⟨m, u, h1, h2, h3⟩)
      · rcases Bool.or_eq_true_iff.1 h1 with h1 | h1
        · exact .inl h1
        · rw [Bool.and_eq_true, decide_eq_true_eq] at h1
          exact .inr ⟨0, v, rfl, by omega, h1.1⟩
      · exact .inr ⟨m + 1, u, by simpa using h1, by omega, h3⟩
    · rintro (h1 | ⟨m, u, h1, h2, h3⟩)
      · exact .inl (by rw [h1]; rfl)
      · cases m with
        | zero =>
          obtain rfl : v = u := by simpa using h1
          exact .inl (by rw [h3, decide_eq_true (show j = i by omega)]; simp)
        | succ m => exact .inr ⟨m, u, by simpa using h1, by omega, h3⟩
/-- What lies below a chain's next number is below all of them. -/
def Under (out : Nat) : List Int → Prop
  | [] => True
  | v :: _ => out < 2 ^ v.toNat
theorem under_next {hi : Int} {v : Int} {vs : List Int} (h : Chn hi (some v) vs) (h0 : 0 ≤ v) {out : Nat} (ho : out < 2 ^ (v.toNat + 1)) : Under out vs := by
  cases vs with
  | nil => trivial
  | cons u us =>
    have := h.2.2.1 v rfl
    exact Nat.lt_of_lt_of_le ho (Nat.pow_le_pow_right (by decide) (by omega))
theorem asgF_bit (r : Nat) {hi : Int} : ∀ (vs : List Int) (p : Option Int) (i out : Nat), Chn hi p vs → Under out vs → ∀ j, ((asgF r vs i out).testBit j = true ↔ out.testBit j = true ∨ ∃ m v, vs[m]? = some v ∧ j = v.toNat ∧ r.testBit (i + m) = true)
  | [], _, _, _, _, _, j => by simp [asgF]
  | v :: vs, p, i, out, ⟨h0, h1, h2, h3⟩, hu, j => by
    have hl := add_lt (r.testBit i) out v.toNat hu
    rw [asgF, asgF_bit r vs (some v) (i + 1) _ h3 (under_next h3 h0 hl) j, bit_add _ _ _ hu]
    constructor
    · rintro (h1 | ⟨m, u, h1, h2, h3⟩)
      · rcases Bool.or_eq_true_iff.1 h1 with h1 | h1
        · exact .inl h1
        · rw [Bool.and_eq_true, decide_eq_true_eq] at h1
          exact .inr ⟨0, v, rfl, h1.2, h1.1⟩
      · exact .inr ⟨m + 1, u, by simpa using h1, h2, by rw [show i + (m + 1) = i + 1 + m by omega]; exact h3⟩
    · rintro (h1 | ⟨m, u, h1, h2, h3⟩)
      · exact .inl (by rw [h1]; rfl)
      · cases m with
        | zero =>
          obtain rfl : v = u := by simpa using h1
          rw [Nat.add_zero] at h3
          exact .inl (by rw [h3, decide_eq_true h2]; simp)
        | succ m => exact .inr ⟨m, u, by simpa using h1, h2, by rw [show i + 1 + m = i + (m + 1) by omega]; exact h3⟩
theorem asgF_lt (r : Nat) {hi : Int} (hhi : 0 ≤ hi) : ∀ (vs : List Int) (p : Option Int) (i out : Nat), Chn hi p vs → Under out vs → out < 2 ^ hi.toNat → asgF r vs i out < 2 ^ hi.toNat
  | [], _, _, _, _, _, ho => ho
  | v :: vs, p, i, out, ⟨h0, h1, h2, h3⟩, hu, _ => by
    have hl := add_lt (r.testBit i) out v.toNat hu
    rw [asgF]
    refine asgF_lt r hhi vs (some v) (i + 1) _ h3 (under_next h3 h0 hl) (Nat.lt_of_lt_of_le hl (Nat.pow_le_pow_right (by decide) (by omega)))
def row (vs : List Int) (a : Nat) : Nat := rowF a vs 0 0
def asg (vs : List Int) (r : Nat) : Nat := asgF r vs 0 0
theorem row_lt (vs : List Int) (a : Nat) : row vs a < 2 ^ vs.length := by
  have := rowF_lt a vs 0 0 (by decide)
  rw [Nat.zero_add] at this
  exact this
theorem row_bit (vs : List Int) (a j : Nat) : (row vs a).testBit j = true ↔ ∃ v, vs[j]? = some v ∧ a.testBit v.toNat = true := by
  unfold row
  rw [rowF_bit a vs 0 0 (by decide)]
  constructor
  · rintro (h | ⟨m, v, h1, h2, h3⟩)
    · simp at h
    · obtain rfl : j = m := by omega
      exact ⟨v, h1, h3⟩
  · rintro ⟨v, h1, h2⟩
    exact .inr ⟨j, v, h1, by omega, h2⟩
theorem under_zero (vs : List Int) : Under 0 vs := by cases vs <;> simp [Under, Nat.two_pow_pos]
theorem asg_bit {hi : Int} {vs : List Int} (h : Chn hi none vs) (r j : Nat) : (asg vs r).testBit j = true ↔ ∃ m v, vs[m]? = some v ∧ j = v.toNat ∧ r.testBit m = true := by
  unfold asg
  rw [asgF_bit r vs none 0 0 h (under_zero vs)]
  simp
theorem asg_lt {vs : List Int} (h : Chn 24 none vs) (r : Nat) : asg vs r < 2 ^ 24 := asgF_lt r (by decide) vs none 0 0 h (under_zero vs) (Nat.two_pow_pos _)
theorem Chn.inj {hi : Int} : ∀ {vs : List Int} {p : Option Int}, Chn hi p vs → ∀ (i j : Nat) (u v : Int), vs[i]? = some u → vs[j]? = some v → u.toNat = v.toNat → i = j
  | [], _, _, i, j, u, v, h, _, _ => by simp at h
  | x :: xs, p, ⟨h0, h1, h2, h3⟩, i, j, u, v, hi, hj, e => by
    cases i with
    | zero =>
      obtain rfl : x = u := by simpa using hi
      cases j with
      | zero => rfl
      | succ j =>
        have hj' : xs[j]? = some v := by simpa using hj
        have := h3.mem v (List.mem_of_getElem? hj')
        have := this.2.2 x rfl
        omega
    | succ i =>
      have hi' : xs[i]? = some u := by simpa using hi
      cases j with
      | zero =>
        obtain rfl : x = v := by simpa using hj
        have := h3.mem u (List.mem_of_getElem? hi')
        have := this.2.2 x rfl
        omega
      | succ j => rw [Chn.inj h3 i j u v hi' (by simpa using hj) e]
theorem row_asg {hi : Int} {vs : List Int} (h : Chn hi none vs) {r : Nat} (hr : r < 2 ^ vs.length) : row vs (asg vs r) = r := by
  apply Nat.eq_of_testBit_eq
  intro j
  rw [Bool.eq_iff_iff, row_bit]
  constructor
  · rintro ⟨v, hv, hb⟩
    obtain ⟨m, u, hm, e, hr⟩ := (asg_bit h r _).1 hb
    rw [h.inj j m v u hv hm e]; exact hr
  · intro hb
    have hj : j < vs.length := by
      rcases Nat.lt_or_ge j vs.length with h1 | h1
      · exact h1
      · rw [Nat.testBit_lt_two_pow (Nat.lt_of_lt_of_le hr (Nat.pow_le_pow_right (by decide) h1))] at hb; exact absurd hb (by simp)
    exact ⟨vs[j], List.getElem?_eq_getElem hj, (asg_bit h r _).2 ⟨j, vs[j], List.getElem?_eq_getElem hj, rfl, hb⟩⟩

/-! ### Rows and assignments; has -/
theorem nat_of {v : Int} (h : 0 ≤ v) : v = ((v.toNat : Nat) : Int) := by omega
theorem Chn.below {hi : Int} : ∀ {xs : List Int} {p : Option Int}, Chn hi p xs → ∀ (i j : Nat) (x y : Int), i < j → xs[i]? = some x → xs[j]? = some y → x < y
  | [], _, _, i, j, x, y, _, h, _ => by simp at h
  | z :: zs, p, ⟨_, _, _, h3⟩, i, j, x, y, hij, hx, hy => by
    cases j with
    | zero => omega
    | succ j =>
      have hy' : zs[j]? = some y := by simpa using hy
      cases i with
      | zero =>
        obtain rfl : z = x := by simpa using hx
        exact (h3.mem y (List.mem_of_getElem? hy')).2.2 z rfl
      | succ i => exact Chn.below h3 i j x y (by omega) (by simpa using hx) hy'
theorem rd_get (xs : List Int) (i : Nat) (h : i < xs.length) : xs[i]? = some (rd xs i) := by
  simp [rd, List.getD, List.getElem?_eq_getElem h]
theorem u64_wrap (n : Int) (h0 : 0 ≤ n) (h1 : n ≤ 9223372036854775807) : IntKind.u64.wrap n = n := by
  simp [IntKind.wrap, IntKind.bits, IntKind.signed]; omega
/-- Whether an assignment belongs to a table. -/
def hs (vs rs : List Int) (a : Nat) : Bool := decide (((row vs a : Nat) : Int) ∈ rs)
theorem VT.vars' {vs rs : List Int} (h : VT vs rs) : ∀ v, v ∈ vs → 0 ≤ v ∧ v < 24 := fun v hv => by have := h.vars.mem v hv; omega
theorem Chn.len1 {hi : Int} : ∀ {xs : List Int} {q : Int}, Chn hi (some q) xs → 0 ≤ q → q < hi → (xs.length : Int) ≤ hi - 1 - q
  | [], _, _, _, _ => by simp; omega
  | x :: xs, q, ⟨h0, h1, h2, h3⟩, _, _ => by
    have := Chn.len1 h3 h0 h1
    have := h2 q rfl
    simp only [List.length_cons]
    omega
theorem Chn.len {hi : Int} {xs : List Int} (h : Chn hi none xs) (h0 : 0 ≤ hi) : (xs.length : Int) ≤ hi := by
  cases xs with
  | nil => simpa using h0
  | cons x xs =>
    have := Chn.len1 h.2.2.2 h.1 h.2.1
    have := h.1
    simp only [List.length_cons]
    omega
theorem pow10 {n : Nat} (h : n ≤ 10) : 2 ^ n ≤ 1024 := by
  have : (2 : Nat) ^ n ≤ 2 ^ 10 := Nat.pow_le_pow_right (by decide) h
  omega
theorem VT.rows_len {vs rs : List Int} (h : VT vs rs) : (rs.length : Int) ≤ 1024 := by
  have h1 := h.rows.len (Int.natCast_nonneg _)
  have h2 := pow10 h.len
  generalize (2 : Nat) ^ vs.length = z at h1 h2
  omega
/-- The rows that a test accepts. -/
def flt (t : Nat → Bool) : Nat → Nat → List Int
  | 0, _ => []
  | d + 1, r => if t r = true then (r : Int) :: flt t d (r + 1) else flt t d (r + 1)
theorem flt_mem (t : Nat → Bool) : ∀ (d r : Nat) (x : Int), x ∈ flt t d r ↔ ∃ m : Nat, r ≤ m ∧ m < r + d ∧ t m = true ∧ x = m
  | 0, r, x => by simp [flt]; omega
  | d + 1, r, x => by
    have ih := flt_mem t d (r + 1) x
    rw [flt]
    by_cases h : t r = true
    · rw [if_pos h, List.mem_cons, ih]
      constructor
      · rintro (rfl | ⟨m, h1, h2, h3⟩)
        · exact ⟨r, by omega, by omega, h, rfl⟩
        · exact ⟨m, by omega, by omega, h3⟩
      · rintro ⟨m, h1, h2, h3, h4⟩
        by_cases e : m = r
        · exact .inl (by rw [h4, e])
        · exact .inr ⟨m, by omega, by omega, h3, h4⟩
    · rw [if_neg h, ih]
      constructor
      · rintro ⟨m, h1, h2, h3⟩; exact ⟨m, by omega, by omega, h3⟩
      · rintro ⟨m, h1, h2, h3, h4⟩
        by_cases e : m = r
        · subst e; exact absurd h3 h
        · exact ⟨m, by omega, by omega, h3, h4⟩
theorem flt_chn (t : Nat → Bool) : ∀ (d r : Nat) (p : Option Int), (∀ q, p = some q → q < r) → Chn ((r + d : Nat) : Int) p (flt t d r)
  | 0, _, _, _ => trivial
  | d + 1, r, p, hp => by
    have e : ((r + (d + 1) : Nat) : Int) = ((r + 1 + d : Nat) : Int) := by omega
    rw [flt, e]
    by_cases h : t r = true
    · rw [if_pos h]
      exact ⟨by omega, by omega, hp, flt_chn t d (r + 1) _ (fun q hq => by injection hq; omega)⟩
    · rw [if_neg h]
      exact flt_chn t d (r + 1) p (fun q hq => by have := hp q hq; omega)
theorem flt_len (t : Nat → Bool) : ∀ (d r : Nat), (flt t d r).length ≤ d
  | 0, _ => by simp [flt]
  | d + 1, r => by have := flt_len t d (r + 1); rw [flt]; split <;> simp <;> omega
theorem flt_congr (t u : Nat → Bool) : ∀ (d r : Nat), (∀ m, r ≤ m → m < r + d → t m = u m) → flt t d r = flt u d r
  | 0, _, _ => rfl
  | d + 1, r, h => by rw [flt, flt, h r (by omega) (by omega), flt_congr t u d (r + 1) (fun m h1 h2 => h m (by omega) (by omega))]
def ovr (vs : List Int) (t : Nat → Bool) : List Int := flt (fun r => t (asg vs r)) (2 ^ vs.length) 0
theorem ovr_chn (vs : List Int) (t : Nat → Bool) : Chn ((2 ^ vs.length : Nat) : Int) none (ovr vs t) := by
  have := flt_chn (fun r => t (asg vs r)) (2 ^ vs.length) 0 none (fun q hq => by cases hq)
  rw [Nat.zero_add] at this
  exact this
theorem ovr_mem (vs : List Int) (t : Nat → Bool) (x : Int) : x ∈ ovr vs t ↔ ∃ m : Nat, m < 2 ^ vs.length ∧ t (asg vs m) = true ∧ x = m := by
  unfold ovr
  rw [flt_mem]
  constructor
  · rintro ⟨m, _, h1, h2, h3⟩; exact ⟨m, by omega, h2, h3⟩
  · rintro ⟨m, h1, h2, h3⟩; exact ⟨m, by omega, by omega, h2, h3⟩
/-! all -/
theorem chn_snoc {hi : Int} {x : Int} (h0 : 0 ≤ x) (h1 : x < hi) : ∀ {l : List Int} {p : Option Int}, Chn hi p l → (∀ y, y ∈ l → y < x) → (∀ q, p = some q → q < x) → Chn hi p (l ++ [x])
  | [], _, _, _, hp => ⟨h0, h1, hp, trivial⟩
  | y :: l, p, ⟨a0, a1, a2, a3⟩, hl, hp => ⟨a0, a1, a2, chn_snoc h0 h1 a3 (fun z hz => hl z (List.mem_cons_of_mem _ hz)) (fun q hq => by injection hq with hq; rw [← hq]; exact hl y List.mem_cons_self)⟩
theorem compact_spec {hi : Int} (d : Array Int) (hd : ∀ i j, i ≤ j → j < d.size → d[i]! ≤ d[j]!) (hr : ∀ i, i < d.size → 0 ≤ d[i]! ∧ d[i]! < hi) : ∀ m, m ≤ d.size → Chn hi none (Lib.compactUpTo d m) ∧ ∀ n, n ∈ Lib.compactUpTo d m ↔ ∃ j, j < m ∧ d[j]! = n
  | 0, _ => ⟨by simp [Lib.compactUpTo, Chn], fun n => by simp [Lib.compactUpTo]⟩
  | m + 1, hm => by
    obtain ⟨h1, h2⟩ := compact_spec d hd hr m (by omega)
    have hrm := hr m (by omega)
    rw [Lib.compactUpTo_succ]
    by_cases hk : Lib.keeps d m = true
    · rw [if_pos hk]
      have hk2 : m = 0 ∨ d[m]! ≠ d[m - 1]! := by simpa [Lib.keeps] using hk
      refine ⟨chn_snoc hrm.1 hrm.2 h1 (fun y hy => ?_) (fun q hq => by cases hq), fun n => ?_⟩
      · obtain ⟨j, hj, rfl⟩ := (h2 y).1 hy
        have a1 := hd j (m - 1) (by omega) (by omega)
        have a2 := hd (m - 1) m (by omega) (by omega)
        rcases hk2 with h | h
        · omega
        · omega
      · rw [List.mem_append, h2]
        constructor
        · rintro (⟨j, hj, e⟩ | h)
          · exact ⟨j, by omega, e⟩
          · exact ⟨m, by omega, by simpa using Eq.symm (List.mem_singleton.1 h)⟩
        · rintro ⟨j, hj, e⟩
          by_cases ej : j = m
          · subst ej; exact .inr (by simp [e])
          · exact .inl ⟨j, by omega, e⟩
    · rw [if_neg hk, List.append_nil]
      have hk2 : ¬ (m = 0 ∨ d[m]! ≠ d[m - 1]!) := by simpa [Lib.keeps] using hk
      refine ⟨h1, fun n => ?_⟩
      rw [h2]
      constructor
      · rintro ⟨j, hj, e⟩; exact ⟨j, by omega, e⟩
      · rintro ⟨j, hj, e⟩
        by_cases ej : j = m
        · subst ej
          exact ⟨j - 1, by omega, by rw [← e]; exact (Classical.byContradiction fun hne => hk2 (.inr (fun h => hne h.symm)))⟩
        · exact ⟨j, by omega, e⟩
/-- The members of a list, ascending, each once. -/
theorem sorted_compact {hi : Int} (l : List Int) (hr : ∀ x, x ∈ l → 0 ≤ x ∧ x < hi) : Chn hi none (Lib.compact (l.mergeSort fun x y => decide (x ≤ y))) ∧ ∀ n, n ∈ Lib.compact (l.mergeSort fun x y => decide (x ≤ y)) ↔ n ∈ l := by
  have hp := List.pairwise_mergeSort (le := fun x y : Int => decide (x ≤ y)) (fun a b c h1 h2 => by simp at *; omega) (fun a b => by simp; omega) l
  have hperm := List.mergeSort_perm l (fun x y : Int => decide (x ≤ y))
  generalize hs : l.mergeSort (fun x y => decide (x ≤ y)) = s at hp hperm
  have hget : ∀ i, i < s.length → s.toArray[i]! = s[i]! := fun i hi => by simp
  have key := compact_spec (hi := hi) s.toArray (fun i j hij hj => by
    have hj' : j < s.length := by simpa using hj
    rw [hget i (by omega), hget j hj', List.getElem!_eq_getElem?_getD, List.getElem!_eq_getElem?_getD, List.getElem?_eq_getElem hj', List.getElem?_eq_getElem (show i < s.length by omega)]
    by_cases e : i = j
    · subst e; exact Int.le_refl _
    · have := List.pairwise_iff_getElem.1 hp i j (by omega) hj' (by omega)
      simpa using this) (fun i hi2 => by
    have hi' : i < s.length := by simpa using hi2
    rw [hget i hi', List.getElem!_eq_getElem?_getD, List.getElem?_eq_getElem hi']
    exact hr _ (hperm.mem_iff.1 (List.getElem_mem hi'))) s.length (by simp)
  refine ⟨key.1, fun n => ?_⟩
  have h2 := key.2 n
  unfold Lib.compact
  rw [h2, ← hperm.mem_iff]
  constructor
  · rintro ⟨j, hj, e⟩
    rw [hget j hj, List.getElem!_eq_getElem?_getD, List.getElem?_eq_getElem hj] at e
    exact e ▸ List.getElem_mem hj
  · intro hn
    obtain ⟨j, hj, e⟩ := List.getElem_of_mem hn
    exact ⟨j, hj, by rw [hget j hj, List.getElem!_eq_getElem?_getD, List.getElem?_eq_getElem hj]; exact e⟩
def all2 (a b : List Int) : List Int := Lib.compact ((a ++ b).mergeSort fun x y => decide (x ≤ y))
theorem all2_chn {a b : List Int} (ha : Chn 24 none a) (hb : Chn 24 none b) : Chn 24 none (all2 a b) ∧ ∀ n, n ∈ all2 a b ↔ n ∈ a ∨ n ∈ b := by
  have := sorted_compact (hi := 24) (a ++ b) (fun x hx => by
    rcases List.mem_append.1 hx with h | h
    · have := ha.mem x h; omega
    · have := hb.mem x h; omega)
  exact ⟨this.1, fun n => (this.2 n).trans List.mem_append⟩
/-! ### What rows and assignments mean -/
theorem row_agree (vs : List Int) {x y : Nat} (h : ∀ w, w ∈ vs → x.testBit w.toNat = y.testBit w.toNat) : row vs x = row vs y := by
  apply Nat.eq_of_testBit_eq
  intro j
  rw [Bool.eq_iff_iff, row_bit, row_bit]
  constructor
  · rintro ⟨v, hv, hb⟩; exact ⟨v, hv, by rw [← h v (List.mem_of_getElem? hv)]; exact hb⟩
  · rintro ⟨v, hv, hb⟩; exact ⟨v, hv, by rw [h v (List.mem_of_getElem? hv)]; exact hb⟩
theorem asg_at {hi : Int} {vs : List Int} (h : Chn hi none vs) (x : Nat) {w : Int} (hw : w ∈ vs) : (asg vs (row vs x)).testBit w.toNat = x.testBit w.toNat := by
  rw [Bool.eq_iff_iff, asg_bit h]
  obtain ⟨i, hi2⟩ := List.getElem?_of_mem hw
  constructor
  · rintro ⟨m, v, hv, e, hb⟩
    obtain ⟨u, hu, hb⟩ := (row_bit vs x m).1 hb
    rw [hv] at hu
    injection hu with hu
    rw [e, hu]; exact hb
  · intro hb
    exact ⟨i, w, hi2, rfl, (row_bit vs x i).2 ⟨w, hi2, hb⟩⟩
theorem asg_out {hi : Int} {vs : List Int} (h : Chn hi none vs) (r : Nat) {v : Int} (hv : 0 ≤ v) (hn : v ∉ vs) : (asg vs r).testBit v.toNat = false := by
  rw [Bool.eq_false_iff]
  intro hb
  obtain ⟨m, w, hw, e, _⟩ := (asg_bit h r _).1 hb
  have hm := List.mem_of_getElem? hw
  have := h.mem w hm
  exact hn (by rw [show v = w by omega]; exact hm)
theorem hs_agree (vs rs : List Int) {x y : Nat} (h : ∀ w, w ∈ vs → x.testBit w.toNat = y.testBit w.toNat) : hs vs rs x = hs vs rs y := by
  unfold hs; rw [row_agree vs h]
theorem hs_asg {vs rs : List Int} (h : VT vs rs) (x : Nat) : hs vs rs (asg vs (row vs x)) = hs vs rs x := hs_agree vs rs (fun w hw => asg_at h.vars x hw)
theorem hs_ovr {us : List Int} (hc : Chn 24 none us) (t : Nat → Bool) (x : Nat) : hs us (ovr us t) x = t (asg us (row us x)) := by
  unfold hs
  rw [Bool.eq_iff_iff, decide_eq_true_eq, ovr_mem]
  constructor
  · rintro ⟨m, _, h1, h2⟩
    have : row us x = m := by omega
    rw [this]; exact h1
  · intro h; exact ⟨row us x, row_lt us x, h, rfl⟩
def setb (a : Nat) (v : Int) (b : Bool) : Nat := a ||| (b.toNat * 2 ^ v.toNat)
theorem setb_bit (a : Nat) (v : Int) (b : Bool) (j : Nat) : (setb a v b).testBit j = (a.testBit j || (b && decide (j = v.toNat))) := by
  unfold setb
  rw [Nat.testBit_or]
  have := bit_add b 0 v.toNat (Nat.two_pow_pos _) j
  rw [Nat.zero_add, Nat.zero_testBit, Bool.false_or] at this
  rw [this]
/-- The variables but one. -/
def wo (vs : List Int) (v : Int) : List Int := vs.filter fun x => !(x == v)
theorem wo_mem (vs : List Int) (v w : Int) : w ∈ wo vs v ↔ w ∈ vs ∧ w ≠ v := by unfold wo; rw [List.mem_filter]; simp
theorem wo_chn {hi : Int} {vs : List Int} (h : Chn hi none vs) (v : Int) : Chn hi none (wo vs v) := h.filter _
theorem wo_le (vs : List Int) (v : Int) : (wo vs v).length ≤ vs.length := List.length_filter_le _ _
theorem wo_lt {vs : List Int} {v : Int} (h : v ∈ vs) : (wo vs v).length < vs.length := by
  have : ∀ l : List Int, v ∈ l → (l.filter fun x => !(x == v)).length < l.length := by
    intro l
    induction l with
    | nil => intro h; simp at h
    | cons x xs ih =>
      intro hx
      rw [List.filter_cons]
      by_cases e : x = v
      · rw [if_neg (by simp [e])]
        have := List.length_filter_le (fun x => !(x == v)) xs
        simp only [List.length_cons]; omega
      · rw [if_pos (by simp [e])]
        have := ih (by rcases List.mem_cons.1 hx with h | h; exact absurd h.symm e; exact h)
        simp only [List.length_cons]; omega
  exact this vs h
/-- The rows over some of the variables. -/
def prj (vs rs us : List Int) : List Int := flt (fun m => rs.any fun r => row us (asg vs r.toNat) == m) (2 ^ us.length) 0
theorem prj_chn (vs rs us : List Int) : Chn ((2 ^ us.length : Nat) : Int) none (prj vs rs us) := by
  have := flt_chn (fun m => rs.any fun r => row us (asg vs r.toNat) == m) (2 ^ us.length) 0 none (fun q hq => by cases hq)
  rw [Nat.zero_add] at this
  exact this
theorem prj_mem (vs rs us : List Int) (x : Int) : x ∈ prj vs rs us ↔ ∃ r, r ∈ rs ∧ x = ((row us (asg vs r.toNat) : Nat) : Int) := by
  unfold prj
  rw [flt_mem]
  constructor
  · rintro ⟨m, _, _, h, rfl⟩
    obtain ⟨r, hr, e⟩ := List.any_eq_true.1 h
    exact ⟨r, hr, by rw [beq_iff_eq.1 e]⟩
  · rintro ⟨r, hr, rfl⟩
    exact ⟨_, by omega, by rw [Nat.zero_add]; exact row_lt _ _, List.any_eq_true.2 ⟨r, hr, by simp⟩, rfl⟩
theorem VT.row_of {vs rs : List Int} (h : VT vs rs) {r : Int} (hr : r ∈ rs) : 0 ≤ r ∧ r.toNat < 2 ^ vs.length ∧ row vs (asg vs r.toNat) = r.toNat := by
  have h1 := h.rows.mem r hr
  have h2 : r.toNat < 2 ^ vs.length := by
    have := h1.2.1
    generalize 2 ^ vs.length = z at *
    omega
  exact ⟨h1.1, h2, row_asg h.vars h2⟩
theorem prj_self {vs rs : List Int} (h : VT vs rs) : prj vs rs vs = rs := by
  refine Chn.same (prj_chn vs rs vs) h.rows (fun n => ?_)
  rw [prj_mem]
  constructor
  · rintro ⟨r, hr, rfl⟩
    have := h.row_of hr
    rw [this.2.2, ← nat_of this.1]; exact hr
  · intro hn
    have := h.row_of hn
    exact ⟨n, hn, by rw [this.2.2, ← nat_of this.1]⟩
/-- Restrict: the rows over the other variables whose assignments, with the value, belong to the table; or: what remains of the rows with the value. -/
theorem restrict_eq {vs rs : List Int} (h : VT vs rs) {v : Int} (hv : v ∈ vs) (b : Bool) :
    ovr (wo vs v) (fun a => hs vs rs (setb a v b)) = prj vs (rs.filter fun r => (asg vs r.toNat).testBit v.toNat == b) (wo vs v) := by
  have hc := wo_chn h.vars v
  have hv0 := (h.vars.mem v hv).1
  have hnv : v ∉ wo vs v := fun hh => ((wo_mem vs v v).1 hh).2 rfl
  refine Chn.same (ovr_chn _ _) (prj_chn _ _ _) (fun x => ?_)
  rw [ovr_mem, prj_mem]
  constructor
  · rintro ⟨m, hm, ht, rfl⟩
    have ht2 : ((row vs (setb (asg (wo vs v) m) v b) : Nat) : Int) ∈ rs := by simpa [hs] using ht
    refine ⟨_, List.mem_filter.2 ⟨ht2, ?_⟩, ?_⟩
    · rw [Int.toNat_natCast, asg_at h.vars _ hv, setb_bit, asg_out hc m hv0 hnv]; simp
    · rw [Int.toNat_natCast]
      congr 1
      rw [← row_asg hc hm]
      refine row_agree _ (fun w hw => ?_)
      have hw2 := (wo_mem vs v w).1 hw
      have hw0 := (h.vars.mem w hw2.1).1
      rw [row_asg hc hm, asg_at h.vars _ hw2.1, setb_bit, decide_eq_false (fun e => hw2.2 (by omega)), Bool.and_false, Bool.or_false]
  · rintro ⟨r, hr, rfl⟩
    obtain ⟨hr1, hr2⟩ := List.mem_filter.1 hr
    have hro := h.row_of hr1
    refine ⟨_, row_lt _ _, ?_, rfl⟩
    have : row vs (setb (asg (wo vs v) (row (wo vs v) (asg vs r.toNat))) v b) = r.toNat := by
      rw [← hro.2.2]
      refine row_agree _ (fun w hw => ?_)
      rw [hro.2.2, setb_bit]
      by_cases e : w = v
      · subst e
        rw [asg_out hc _ hv0 hnv, decide_eq_true rfl, Bool.and_true, Bool.false_or]
        exact (beq_iff_eq.1 hr2).symm
      · have hw0 := (h.vars.mem w hw).1
        rw [asg_at hc _ ((wo_mem vs v w).2 ⟨hw, e⟩), decide_eq_false (fun e2 => e (by omega)), Bool.and_false, Bool.or_false]
    unfold hs
    rw [this, ← nat_of hro.1]
    simpa using hr1
/-! Variables that matter. -/
def flip (a : Nat) (v : Int) : Nat := a ^^^ (2 ^ v.toNat)
theorem flip_bit (a : Nat) (v : Int) (j : Nat) : (flip a v).testBit j = (a.testBit j ^^ decide (j = v.toNat)) := by
  unfold flip
  rw [Nat.testBit_xor, Nat.testBit_two_pow]
  congr 1
  exact decide_eq_decide.2 ⟨fun h => h.symm, fun h => h.symm⟩
def mat (vs rs : List Int) (v : Int) : Bool := (List.range (2 ^ vs.length)).any fun r => hs vs rs (asg vs r) != hs vs rs (flip (asg vs r) v)
theorem mat_false {vs rs : List Int} (h : VT vs rs) {v : Int} (hv : mat vs rs v = false) (x y : Nat) (hxy : ∀ w, w ∈ vs → w ≠ v → x.testBit w.toNat = y.testBit w.toNat) (h0 : 0 ≤ v) : hs vs rs x = hs vs rs y := by
  have key : ∀ x, hs vs rs x = hs vs rs (flip x v) := by
    intro x
    unfold mat at hv
    rw [List.any_eq_false] at hv
    have := hv (row vs x) (List.mem_range.2 (row_lt vs x))
    have e : hs vs rs (asg vs (row vs x)) = hs vs rs (flip (asg vs (row vs x)) v) := by simpa using this
    rw [hs_asg h] at e
    rw [e]
    refine hs_agree vs rs (fun w hw => ?_)
    rw [flip_bit, flip_bit, asg_at h.vars x hw]
  by_cases e : x.testBit v.toNat = y.testBit v.toNat
  · refine hs_agree vs rs (fun w hw => ?_)
    by_cases ew : w = v
    · rw [ew]; exact e
    · exact hxy w hw ew
  · rw [key x]
    refine hs_agree vs rs (fun w hw => ?_)
    rw [flip_bit]
    by_cases ew : w = v
    · subst ew
      rw [decide_eq_true rfl]
      revert e
      cases x.testBit w.toNat <;> cases y.testBit w.toNat <;> simp
    · have hw0 := (h.vars.mem w hw).1
      rw [decide_eq_false (fun e2 => ew (by omega)), Bool.xor_false]
      exact hxy w hw ew
theorem mat_true {vs rs : List Int} {v : Int} (h : ∃ x, hs vs rs x ≠ hs vs rs (flip x v)) (hv : VT vs rs) : mat vs rs v = true := by
  obtain ⟨x, hx⟩ := h
  unfold mat
  rw [List.any_eq_true]
  refine ⟨row vs x, List.mem_range.2 (row_lt vs x), ?_⟩
  have e1 := hs_asg hv x
  have e2 : hs vs rs (flip (asg vs (row vs x)) v) = hs vs rs (flip x v) := hs_agree vs rs (fun w hw => by rw [flip_bit, flip_bit, asg_at hv.vars x hw])
  rw [e1, e2]
  simpa using hx
theorem mat_iff {vs rs : List Int} (hv : VT vs rs) (v : Int) : mat vs rs v = true ↔ ∃ x, hs vs rs x ≠ hs vs rs (flip x v) := by
  refine ⟨fun h => ?_, fun h => mat_true h hv⟩
  unfold mat at h
  obtain ⟨r, _, hr⟩ := List.any_eq_true.1 h
  exact ⟨asg vs r, by simpa using hr⟩
/-- The rows without a variable that doesn't matter. -/
theorem zero_one {vs rs : List Int} (h : VT vs rs) {v : Int} (hv : v ∈ vs) : ovr (wo vs v) (hs vs rs) = ovr (wo vs v) (fun a => hs vs rs (setb a v true)) ↔ mat vs rs v = false := by
  have hc := wo_chn h.vars v
  have hv0 := (h.vars.mem v hv).1
  have hnv : v ∉ wo vs v := fun hh => ((wo_mem vs v v).1 hh).2 rfl
  constructor
  · intro e
    rw [Bool.eq_false_iff]
    intro hm
    obtain ⟨x, hx⟩ := (mat_iff h v).1 hm
    -- the two ways, with the variable's bit 0 and 1
    have e0 : ∀ y, hs vs rs (asg (wo vs v) (row (wo vs v) y)) = hs vs rs (setb (asg (wo vs v) (row (wo vs v) y)) v true) := by
      intro y
      have h1 := hs_ovr hc (hs vs rs) y
      have h2 := hs_ovr hc (fun a => hs vs rs (setb a v true)) y
      rw [← h1, e, h2]
    have ag : ∀ y : Nat, y.testBit v.toNat = false → hs vs rs y = hs vs rs (asg (wo vs v) (row (wo vs v) y)) := fun y hy => hs_agree vs rs (fun w hw => by
      by_cases ew : w = v
      · subst ew; rw [hy, asg_out hc _ hv0 hnv]
      · rw [asg_at hc y ((wo_mem vs v w).2 ⟨hw, ew⟩)])
    have ag1 : ∀ y : Nat, y.testBit v.toNat = true → hs vs rs y = hs vs rs (setb (asg (wo vs v) (row (wo vs v) y)) v true) := fun y hy => hs_agree vs rs (fun w hw => by
      rw [setb_bit]
      by_cases ew : w = v
      · subst ew; rw [hy, decide_eq_true rfl]; simp
      · have hw0 := (h.vars.mem w hw).1
        rw [asg_at hc y ((wo_mem vs v w).2 ⟨hw, ew⟩), decide_eq_false (fun e2 => ew (by omega)), Bool.and_false, Bool.or_false])
    have rf : row (wo vs v) (flip x v) = row (wo vs v) x := row_agree _ (fun w hw => by
      have hw2 := (wo_mem vs v w).1 hw
      have hw0 := (h.vars.mem w hw2.1).1
      rw [flip_bit, decide_eq_false (fun e2 => hw2.2 (by omega)), Bool.xor_false])
    have ff : (flip x v).testBit v.toNat = !(x.testBit v.toNat) := by rw [flip_bit, decide_eq_true rfl, Bool.xor_true]
    by_cases hb : x.testBit v.toNat = true
    · exact hx (by rw [ag1 x hb, ag (flip x v) (by rw [ff, hb]; rfl), rf, e0 x])
    · have hb' : x.testBit v.toNat = false := Bool.eq_false_iff.2 hb
      exact hx (by rw [ag x hb', ag1 (flip x v) (by rw [ff, hb']; rfl), rf, e0 x])
  · intro hm
    unfold ovr
    refine flt_congr _ _ _ _ (fun m _ _ => ?_)
    refine mat_false h hm _ _ (fun w hw hne => ?_) hv0
    have hw0 := (h.vars.mem w hw).1
    rw [setb_bit, decide_eq_false (fun e2 => hne (by omega)), Bool.and_false, Bool.or_false]
theorem hs_zero {vs rs : List Int} (h : VT vs rs) {v : Int} (hv : v ∈ vs) (hm : mat vs rs v = false) (x : Nat) : hs (wo vs v) (ovr (wo vs v) (hs vs rs)) x = hs vs rs x := by
  rw [hs_ovr (wo_chn h.vars v)]
  exact mat_false h hm _ _ (fun w hw hne => asg_at (wo_chn h.vars v) x ((wo_mem vs v w).2 ⟨hw, hne⟩)) (h.vars.mem v hv).1
theorem VT.zero {vs rs : List Int} (h : VT vs rs) (v : Int) (t : Nat → Bool) : VT (wo vs v) (ovr (wo vs v) t) :=
  ⟨Nat.le_trans (wo_le vs v) h.len, wo_chn h.vars v, ovr_chn _ _⟩
/-- The variables that matter, and the rows over them. -/
def vit (vs rs : List Int) : List Int × List Int := (vs.filter (mat vs rs), prj vs rs (vs.filter (mat vs rs)))
theorem vit_zero {vs rs : List Int} (h : VT vs rs) {v : Int} (hv : v ∈ vs) (hm : mat vs rs v = false) : vit (wo vs v) (ovr (wo vs v) (hs vs rs)) = vit vs rs := by
  have hz := h.zero v (hs vs rs)
  have same : ∀ w, mat (wo vs v) (ovr (wo vs v) (hs vs rs)) w = mat vs rs w := by
    intro w
    rw [Bool.eq_iff_iff, mat_iff hz, mat_iff h]
    simp only [hs_zero h hv hm]
  have hf : (wo vs v).filter (mat (wo vs v) (ovr (wo vs v) (hs vs rs))) = vs.filter (mat vs rs) := by
    unfold wo at same ⊢
    rw [List.filter_filter]
    refine List.filter_congr (fun w hw => ?_)
    rw [same w]
    by_cases e : w = v
    · subst e; rw [hm]; rfl
    · simp [e]
  unfold vit
  rw [hf]
  refine congrArg (Prod.mk _) (Chn.same (prj_chn _ _ _) (prj_chn _ _ _) (fun n => ?_))
  have hsub : ∀ w, w ∈ vs.filter (mat vs rs) → w ∈ vs ∧ w ≠ v := fun w hw => by
    obtain ⟨h1, h2⟩ := List.mem_filter.1 hw
    exact ⟨h1, fun e => by rw [e, hm] at h2; exact absurd h2 (by simp)⟩
  rw [prj_mem, prj_mem]
  constructor
  · rintro ⟨z, hz2, rfl⟩
    obtain ⟨m, hm2, ht, rfl⟩ := (ovr_mem _ _ _).1 hz2
    have ht2 : ((row vs (asg (wo vs v) m) : Nat) : Int) ∈ rs := by simpa [hs] using ht
    refine ⟨_, ht2, ?_⟩
    rw [Int.toNat_natCast, Int.toNat_natCast]
    congr 1
    exact row_agree _ (fun w hw => (asg_at h.vars _ (hsub w hw).1).symm)
  · rintro ⟨r, hr, rfl⟩
    have hro := h.row_of hr
    refine ⟨((row (wo vs v) (asg vs r.toNat) : Nat) : Int), (ovr_mem _ _ _).2 ⟨_, row_lt _ _, ?_, rfl⟩, ?_⟩
    · have e : hs vs rs (asg (wo vs v) (row (wo vs v) (asg vs r.toNat))) = hs vs rs (asg vs r.toNat) :=
        mat_false h hm _ _ (fun w hw hne => asg_at (wo_chn h.vars v) _ ((wo_mem vs v w).2 ⟨hw, hne⟩)) (h.vars.mem v hv).1
      rw [e]
      unfold hs
      rw [hro.2.2, ← nat_of hro.1]
      simpa using hr
    · rw [Int.toNat_natCast]
      congr 1
      exact row_agree _ (fun w hw => (asg_at (wo_chn h.vars v) _ ((wo_mem vs v w).2 (hsub w hw))).symm)
theorem vit_all {vs rs : List Int} (h : VT vs rs) (ha : ∀ v, v ∈ vs → mat vs rs v = true) : vit vs rs = (vs, rs) := by
  have : vs.filter (mat vs rs) = vs := List.filter_eq_self.2 ha
  unfold vit
  rw [this, prj_self h]

/-! ### The reference's loops -/
theorem rasc_loop (vs : List Int) (hl : (vs.length : Int) ≤ 9223372036854775807) : ∀ (d i : Nat), i + d = vs.length → Ev (fun k => ancepsref38_Variables.l0 k vs i) (chk 24 (prv vs i) (vs.drop i))
  | 0, i, h => by
    rw [List.drop_eq_nil_of_le (by omega)]
    refine Ev.step (f := fun _ => some 0) (fun k => by rw [ancepsref38_Variables.l0, if_neg (by omega)]) ?_
    cases prv vs i <;> exact Ev.now _
  | d + 1, i, h => by
    have hi : i < vs.length := by omega
    have hw := wrap_succ i vs.length hi hl
    have ih := rasc_loop vs hl d (i + 1) (by omega)
    rw [prv_succ] at ih
    rw [rd_at vs i hi]
    have hno : Ev (fun k => ancepsref38_Variables.j1 k vs i true) 6 := Ev.step (f := fun _ => some 6) (fun k => by rw [ancepsref38_Variables.j1, if_pos rfl]) (Ev.now _)
    have hj : rd vs i < 0 ∨ 24 ≤ rd vs i → ∀ p, chk 24 p (rd vs i :: vs.drop (i + 1)) = 6 := fun h p => by cases p <;> simp only [chk] <;> rw [if_pos h]
    by_cases h0 : rd vs i < 0
    · rw [hj (.inl h0)]
      exact Ev.step (fun k => by rw [ancepsref38_Variables.l0, if_pos (by omega), if_pos (by omega), if_pos h0]) hno
    · by_cases h1 : rd vs i > 23
      · rw [hj (.inr (by omega))]
        exact Ev.step (fun k => by rw [ancepsref38_Variables.l0, if_pos (by omega), if_pos (by omega), if_neg h0, decide_eq_true h1]) hno
      · refine Ev.step (fun k => by rw [ancepsref38_Variables.l0, if_pos (by omega), if_pos (by omega), if_neg h0, decide_eq_false h1]) ?_
        by_cases e : i = 0
        · have ep : prv vs i = none := by unfold prv; rw [if_pos e]
          rw [ep]
          simp only [chk]
          rw [if_neg (by omega)]
          refine Ev.step (fun k => by rw [ancepsref38_Variables.j1, if_neg (by simp), if_neg (by omega), hw]) ih
        · have ep : prv vs i = some (rd vs ((i : Int) - 1)) := by unfold prv; rw [if_neg e]
          rw [ep]
          simp only [chk]
          rw [if_neg (by omega)]
          by_cases h2 : rd vs i ≤ rd vs ((i : Int) - 1)
          · rw [if_pos h2]
            exact Ev.step (f := fun _ => some 18) (fun k => by rw [ancepsref38_Variables.j1, if_neg (by simp), if_pos (by omega), if_pos (by omega), if_pos (by omega), w64_in ((i : Int) - 1) (by omega), if_pos (by omega), if_pos (by omega), if_pos h2]) (Ev.now _)
          · rw [if_neg h2]
            refine Ev.step (fun k => by rw [ancepsref38_Variables.j1, if_neg (by simp), if_pos (by omega), if_pos (by omega), if_pos (by omega), w64_in ((i : Int) - 1) (by omega), if_pos (by omega), if_pos (by omega), if_neg h2, hw]) ih
theorem rasc_ev (vs : List Int) (hl : (vs.length : Int) ≤ 9223372036854775807) : Ev (fun k => ancepsref38_Variables.f k vs) (asc vs) := by
  unfold asc ancepsref38_Variables.f
  refine ev_ite (fun _ => Ev.now _) (fun _ => ?_)
  simpa [prv] using rasc_loop vs hl vs.length 0 (by omega)
theorem rvalid_loop (vs rs : List Int) (hv : vs.length ≤ 10) (hl : (rs.length : Int) ≤ 9223372036854775807) : ∀ (d i : Nat), i + d = rs.length → Ev (fun k => ancepsref38_Valid.l0 k i vs rs) (chk ((2 ^ vs.length : Nat) : Int) (prv rs i) (rs.drop i))
  | 0, i, h => by
    rw [List.drop_eq_nil_of_le (by omega)]
    refine Ev.step (f := fun _ => some 0) (fun k => by rw [ancepsref38_Valid.l0, if_neg (by omega)]) ?_
    cases prv rs i <;> exact Ev.now _
  | d + 1, i, h => by
    have hi : i < rs.length := by omega
    have hw := wrap_succ i rs.length hi hl
    have ih := rvalid_loop vs rs hv hl d (i + 1) (by omega)
    have hs := shl1 vs.length (by omega)
    rw [prv_succ] at ih
    rw [rd_at rs i hi]
    have hno : Ev (fun k => ancepsref38_Valid.j1 k i true vs rs) 6 := Ev.step (f := fun _ => some 6) (fun k => by rw [ancepsref38_Valid.j1, if_pos rfl]) (Ev.now _)
    have hj : rd rs i < 0 ∨ ((2 ^ vs.length : Nat) : Int) ≤ rd rs i → ∀ p, chk ((2 ^ vs.length : Nat) : Int) p (rd rs i :: rs.drop (i + 1)) = 6 := fun h p => by cases p <;> simp only [chk] <;> rw [if_pos h]
    by_cases h0 : rd rs i < 0
    · rw [hj (.inl h0)]
      exact Ev.step (fun k => by rw [ancepsref38_Valid.l0, if_pos (by omega), if_pos (by omega), if_pos h0]) hno
    · by_cases h1 : rd rs i ≥ ((2 ^ vs.length : Nat) : Int)
      · rw [hj (.inr h1)]
        exact Ev.step (fun k => by rw [ancepsref38_Valid.l0, if_pos (by omega), if_pos (by omega), if_neg h0, hs, decide_eq_true h1]) hno
      · refine Ev.step (fun k => by rw [ancepsref38_Valid.l0, if_pos (by omega), if_pos (by omega), if_neg h0, hs, decide_eq_false h1]) ?_
        by_cases e : i = 0
        · have ep : prv rs i = none := by unfold prv; rw [if_pos e]
          rw [ep]
          simp only [chk]
          rw [if_neg (by omega)]
          refine Ev.step (fun k => by rw [ancepsref38_Valid.j1, if_neg (by simp), if_neg (by omega), hw]) ih
        · have ep : prv rs i = some (rd rs ((i : Int) - 1)) := by unfold prv; rw [if_neg e]
          rw [ep]
          simp only [chk]
          rw [if_neg (by omega)]
          by_cases h2 : rd rs i ≤ rd rs ((i : Int) - 1)
          · rw [if_pos h2]
            exact Ev.step (f := fun _ => some 18) (fun k => by rw [ancepsref38_Valid.j1, if_neg (by simp), if_pos (by omega), if_pos (by omega), if_pos (by omega), w64_in ((i : Int) - 1) (by omega), if_pos (by omega), if_pos (by omega), if_pos h2]) (Ev.now _)
          · rw [if_neg h2]
            refine Ev.step (fun k => by rw [ancepsref38_Valid.j1, if_neg (by simp), if_pos (by omega), if_pos (by omega), if_pos (by omega), w64_in ((i : Int) - 1) (by omega), if_pos (by omega), if_pos (by omega), if_neg h2, hw]) ih
theorem rvalid_ev (vs rs : List Int) (hl : (vs.length : Int) ≤ 9223372036854775807) (hr : (rs.length : Int) ≤ 9223372036854775807) : Ev (fun k => ancepsref38_Valid.f k vs rs) (valid vs rs) := by
  unfold valid
  refine Ev.bind (rasc_ev vs hl) ?_
  refine ev_ite (fun h => ?_) (fun _ => Ev.now _)
  simpa [prv] using rvalid_loop vs rs (asc_len h) hr rs.length 0 (by omega)
theorem plus_bit (x n i out : Nat) (hn : n ≤ 60) (hi : i ≤ 30) (ho : out < 2 ^ i) : wrap64 ((out : Int) + shl .i64 (Int.tmod (shr .i64 (x : Int) (n : Int)) 2) (i : Int)) = ((out + (x.testBit n).toNat * 2 ^ i : Nat) : Int) := by
  have hb : IntKind.i64.bits = 64 := rfl
  have h1 : shr .i64 (x : Int) (n : Int) = ((x / 2 ^ n : Nat) : Int) := by
    unfold shr
    rw [hb, show min ((n : Int)).toNat 64 = n by omega]
    simp
  have h2 : Int.tmod ((x / 2 ^ n : Nat) : Int) 2 = (((x.testBit n).toNat : Nat) : Int) := by
    rw [Nat.toNat_testBit, Int.tmod_eq_emod_of_nonneg (Int.natCast_nonneg _)]
    simp
  have hip : (2 : Nat) ^ i ≤ 2 ^ 30 := Nat.pow_le_pow_right (by decide) hi
  have h30 : (2 : Nat) ^ 30 = 1073741824 := by decide
  have hbl : (x.testBit n).toNat * 2 ^ i ≤ 2 ^ i := by cases x.testBit n <;> simp
  have h3 : shl .i64 (((x.testBit n).toNat : Nat) : Int) (i : Int) = (((x.testBit n).toNat * 2 ^ i : Nat) : Int) := by
    unfold shl
    rw [hb, show min ((i : Int)).toNat 64 = i by omega]
    have e : (((x.testBit n).toNat : Nat) : Int) * 2 ^ i = (((x.testBit n).toNat * 2 ^ i : Nat) : Int) := by simp
    rw [e, IntKind.wrap_i64]
    omega
  rw [h1, h2, h3, w64_in _ (by omega)]
  omega
theorem rrow_loop (vs : List Int) (hv : ∀ v, v ∈ vs → 0 ≤ v ∧ v < 24) (hl : vs.length ≤ 24) (a : Nat) : ∀ (d i out : Nat), i + d = vs.length → out < 2 ^ i →
    Ev (fun k => ancepsref38_Row.l0 k vs (a : Int) (out : Int) i) ((rowF a (vs.drop i) i out : Nat) : Int)
  | 0, i, out, h, ho => by
    rw [List.drop_eq_nil_of_le (by omega)]
    exact Ev.step (f := fun _ => some (out : Int)) (fun k => by rw [ancepsref38_Row.l0, if_neg (by omega)]) (Ev.now _)
  | d + 1, i, out, h, ho => by
    have hi : i < vs.length := by omega
    have hw := wrap_succ i vs.length hi (by omega)
    have hm := hv _ (rd_mem vs i hi)
    have ih := rrow_loop vs hv hl a d (i + 1) _ (by omega) (add_lt (a.testBit (rd vs i).toNat) out i ho)
    rw [rd_at vs i hi, rowF]
    refine Ev.step (fun k => ?_) ih
    rw [ancepsref38_Row.l0, if_pos (by omega), if_pos (by omega), if_pos (by omega), hw]
    have hb := plus_bit a (rd vs i).toNat i out (by omega) (by omega) ho
    rw [← nat_of hm.1] at hb
    rw [hb]
theorem rrow_ev (vs : List Int) (hv : ∀ v, v ∈ vs → 0 ≤ v ∧ v < 24) (hl : vs.length ≤ 24) (a : Nat) : Ev (fun k => ancepsref38_Row.f k vs (a : Int)) ((row vs a : Nat) : Int) := by
  have := rrow_loop vs hv hl a vs.length 0 0 (by omega) (by decide)
  exact this
theorem rasg_loop {vs : List Int} (r : Nat) (hl : vs.length ≤ 24) : ∀ (d i out : Nat) (p : Option Int), i + d = vs.length → Chn 24 p (vs.drop i) → Under out (vs.drop i) →
    Ev (fun k => ancepsref38_Assignment.l0 k vs (r : Int) (out : Int) i) ((asgF r (vs.drop i) i out : Nat) : Int)
  | 0, i, out, p, h, hc, ho => by
    rw [List.drop_eq_nil_of_le (by omega)]
    exact Ev.step (f := fun _ => some (out : Int)) (fun k => by rw [ancepsref38_Assignment.l0, if_neg (by omega)]) (Ev.now _)
  | d + 1, i, out, p, h, hc, ho => by
    have hi : i < vs.length := by omega
    have hw := wrap_succ i vs.length hi (by omega)
    rw [rd_at vs i hi] at hc ho ⊢
    have hx := add_lt (r.testBit i) out (rd vs i).toNat ho
    have ih := rasg_loop r hl d (i + 1) _ (some (rd vs i)) (by omega) hc.2.2.2 (under_next hc.2.2.2 hc.1 hx)
    rw [asgF]
    refine Ev.step (fun k => ?_) ih
    have h0 := hc.1
    have h1 := hc.2.1
    rw [ancepsref38_Assignment.l0, if_pos (by omega), if_pos (by omega), if_pos (by omega), hw]
    have hb := plus_bit r i (rd vs i).toNat out (by omega) (by omega) ho
    rw [← nat_of h0] at hb
    rw [hb]
theorem rasg_ev {vs : List Int} (hc : Chn 24 none vs) (hl : vs.length ≤ 24) (r : Nat) : Ev (fun k => ancepsref38_Assignment.f k vs (r : Int)) ((asg vs r : Nat) : Int) := by
  have := rasg_loop r hl vs.length 0 0 none (by omega) hc (under_zero _)
  exact this
theorem in_loop (rs : List Int) (hl : (rs.length : Int) ≤ 9223372036854775807) (x : Int) : ∀ (d i : Nat), i + d = rs.length → Ev (fun k => ancepsref38_in.l0 k rs x i) (decide (x ∈ rs.drop i))
  | 0, i, h => by
    rw [List.drop_eq_nil_of_le (by omega)]
    exact Ev.step (f := fun _ => some false) (fun k => by rw [ancepsref38_in.l0, if_neg (by omega)]) (by simpa using Ev.now _)
  | d + 1, i, h => by
    have hi : i < rs.length := by omega
    have hw := wrap_succ i rs.length hi hl
    have ih := in_loop rs hl x d (i + 1) (by omega)
    rw [rd_at rs i hi]
    by_cases e : rd rs i = x
    · have : decide (x ∈ rd rs i :: rs.drop (i + 1)) = true := by simp [e]
      rw [this]
      exact Ev.step (f := fun _ => some true) (fun k => by rw [ancepsref38_in.l0, if_pos (by omega), if_pos (by omega), if_pos e]) (Ev.now _)
    · have : decide (x ∈ rd rs i :: rs.drop (i + 1)) = decide (x ∈ rs.drop (i + 1)) := by
        rw [decide_eq_decide, List.mem_cons]
        exact ⟨fun h => by rcases h with h | h; exact absurd h.symm e; exact h, .inr⟩
      rw [this]
      exact Ev.step (fun k => by rw [ancepsref38_in.l0, if_pos (by omega), if_pos (by omega), if_neg e, hw]) ih
theorem in_ev (rs : List Int) (hl : (rs.length : Int) ≤ 9223372036854775807) (x : Int) : Ev (fun k => ancepsref38_in.f k rs x) (decide (x ∈ rs)) := by
  have := in_loop rs hl x rs.length 0 (by omega)
  rw [List.drop_zero] at this
  exact this
theorem few_some (vs rs : List Int) : ∃ b, ancepsref38_Few.f vs rs = some b ∧ (b = true → vs.length ≤ 12 ∧ rs.length ≤ 1030) := by
  unfold ancepsref38_Few.f
  by_cases h1 : (vs.length : Int) ≤ 12
  · rw [if_pos h1]; exact ⟨_, rfl, fun h => by have := of_decide_eq_true h; omega⟩
  · rw [if_neg h1]; exact ⟨_, rfl, fun h => by simp at h⟩
/-! projected -/
theorem rdb_set (o : List Bool) (m n : Nat) (v : Bool) (hl : m < o.length) : rdOf false (o.set m v) (n : Int) = if m = n then v else rdOf false o (n : Int) := by
  unfold rdOf
  rw [Int.toNat_natCast]
  by_cases h : m = n
  · subst h; rw [if_pos rfl, List.getD, List.getElem?_set_self hl]; rfl
  · rw [if_neg h]; simp [List.getD, List.getElem?_set_ne h]
def fnd (vs us : List Int) : List Int → List Bool → List Bool
  | [], F => F
  | r :: rs, F => fnd vs us rs (F.set (row us (asg vs r.toNat)) true)
theorem fnd_length (vs us : List Int) : ∀ (rs : List Int) (F : List Bool), (fnd vs us rs F).length = F.length
  | [], _ => rfl
  | r :: rs, F => by rw [fnd, fnd_length vs us rs]; simp
theorem fnd_at (vs us : List Int) : ∀ (rs : List Int) (F : List Bool), F.length = 2 ^ us.length → ∀ m : Nat, rdOf false (fnd vs us rs F) (m : Int) = (rdOf false F (m : Int) || rs.any fun r => row us (asg vs r.toNat) == m)
  | [], F, _, m => by simp [fnd]
  | r :: rs, F, hF, m => by
    rw [fnd, fnd_at vs us rs _ (by simpa using hF) m, rdb_set _ _ _ _ (by rw [hF]; exact row_lt _ _), List.any_cons]
    by_cases e : row us (asg vs r.toNat) = m
    · rw [if_pos e, beq_iff_eq.2 e]; simp
    · rw [if_neg e, beq_eq_false_iff_ne.2 e, Bool.false_or]
/-! ### xor -/
theorem bits_xor (a b : Nat) (ha : a < 2 ^ 62) (hb : b < 2 ^ 62) : Go.bits .xor .i64 (a : Int) (b : Int) = ((a ^^^ b : Nat) : Int) := by
  have h62 : (2 : Nat) ^ 62 = 4611686018427387904 := by decide
  have h64 : (2 : Nat) ^ IntKind.i64.bits = 18446744073709551616 := by decide
  have hx : a ^^^ b < 2 ^ 62 := Nat.xor_lt_two_pow ha hb
  have ha' : a % 2 ^ IntKind.i64.bits = a := Nat.mod_eq_of_lt (by omega)
  have hb' : b % 2 ^ IntKind.i64.bits = b := Nat.mod_eq_of_lt (by omega)
  simp only [Go.bits, BitVec.ofInt_natCast, BitVec.toNat_xor, BitVec.toNat_ofNat, ha', hb']
  rw [IntKind.wrap_i64]
  omega

/-! ### Has and Vital -/
def hass (vs rs : List Int) (a : Int) : Bool × Int := if valid vs rs = 0 then if a < 0 then (false, 6) else if a ≥ 16777216 then (false, 6) else (hs vs rs a.toNat, 0) else (false, valid vs rs)
theorem holds_ev {vs rs : List Int} (h : VT vs rs) (a : Nat) : Ev (fun k => ancepsref38_Holds.f k vs rs (a : Int)) (hs vs rs a) := by
  have h1 := h.rows_len
  have h2 := h.len
  exact Ev.bind (rrow_ev vs h.vars' (by omega) a) (Ev.bind (in_ev rs (by omega) _) (Ev.now _))
theorem xor_flip (a : Nat) (v : Int) (ha : a < 2 ^ 24) (h0 : 0 ≤ v) (h1 : v < 24) : Go.bits .xor .i64 (a : Int) (shl .i64 1 v) = ((flip a v : Nat) : Int) := by
  have hip : (2 : Nat) ^ v.toNat ≤ 2 ^ 24 := Nat.pow_le_pow_right (by decide) (by omega)
  have e := shl1 v.toNat (by omega)
  rw [← nat_of h0] at e
  have hf : flip a v < 2 ^ 25 := Nat.xor_lt_two_pow (Nat.lt_of_lt_of_le ha (by decide)) (Nat.lt_of_le_of_lt hip (by decide))
  rw [e]
  have key := bits_xor a (2 ^ v.toNat) (Nat.lt_of_lt_of_le ha (by decide)) (Nat.lt_of_le_of_lt hip (by decide))
  exact key
def vits (vs rs : List Int) : List Int × List Int × Int := if valid vs rs = 0 then ((vit vs rs).1, (vit vs rs).2, 0) else ([], [], valid vs rs)
theorem prj_len (vs rs us : List Int) : (prj vs rs us).length ≤ 2 ^ us.length := flt_len _ _ _
theorem vits_small (vs rs : List Int) : (vits vs rs).1.length ≤ 1024 ∧ (vits vs rs).2.1.length ≤ 1024 := by
  unfold vits
  by_cases h : valid vs rs = 0
  · have hv := ((valid_VT vs rs).1 h).len
    have hf := List.length_filter_le (mat vs rs) vs
    have hp := prj_len vs rs (vs.filter (mat vs rs))
    have := pow10 (Nat.le_trans hf hv)
    rw [if_pos h]
    exact ⟨Nat.le_trans hf (by omega), Nat.le_trans hp this⟩
  · rw [if_neg h]; simp

end Go.Proofs.Ytbagnalcabdlhaa.Pure
